/-
  Read, walked.
-/
import Derived.Test.YtnbfnlpepnbppaaDkH
namespace Go.Proofs.Ytnbfnlpepnbppaa
set_option linter.unusedVariables false
set_option linter.unusedSimpArgs false
open Go.RowKit Go.Shelf
attribute [local irreducible] bytesL
attribute [local go_sem] Oper.semAt_some
attribute [local go_sem ↓] load_B store_B load_W store_W alloc_W

theorem OwnS.turned {A B : World} {base : Nat} {e : TypeId} {k : Nat} {v : Value} {n : Nat} {f : Nat → List Value} {row : Option Nat} (h : OwnS A base e k v n f) (hg : A.grownBy B row) (hr : ∀ r, row = some r → ∃ o : Obj, A.heap[r]? = some o ∧ o.isCells = false) : OwnS B base e k v n f := by
  obtain ⟨hl, h2⟩ := h
  refine ⟨hl, h2.imp id ?_⟩
  rintro ⟨g, cap, cur, rfl, hb, hh, h3⟩
  have hlt : g < A.heap.size := (Array.getElem?_eq_some_iff.1 hh).1
  refine ⟨g, cap, cur, rfl, hb, (hg.block g hlt (fun e => ?_)).trans hh, h3⟩
  obtain ⟨o, ho, hc⟩ := hr g e.symm
  rw [hh] at ho
  cases ho
  exact absurd hc (by simp [Obj.isCells])
theorem Blk.turned {A B : World} {g : Nat} {t : TypeId} {cs : Array Value} {row : Option Nat} (h : Blk A g t cs) (hg : A.grownBy B row) (hr : ∀ r, row = some r → ∃ o : Obj, A.heap[r]? = some o ∧ o.isCells = false) : Blk B g t cs := by
  refine (hg.block g h.lt (fun e => ?_)).trans h
  obtain ⟨o, ho, hc⟩ := hr g e.symm
  unfold Blk at h
  rw [h] at ho
  cases ho
  exact absurd hc (by simp [Obj.isCells])
theorem keepsFrom_below {B : Nat} {W W' : World} (h : Below W.heap.size W W') : KeepsFrom B W W' := ⟨h.size, fun k o _ hk _ => (h.block k (Array.getElem?_eq_some_iff.1 hk).1).trans hk⟩
/-- the last write at b decides -/
theorem cur_found {S : Nat → Nat → Int} {P : Nat → Nat} {D : Nat → Nat → Int} {b x : Nat} (hx : P x = b) : ∀ {m}, x < m → (∀ y, x < y → y < m → P y ≠ b) → curD S P D m b = D x := by
  intro m h1 h2
  induction m with
  | zero => omega
  | succ m ih =>
    show (if P m = b then D m else curD S P D m b) = D x
    by_cases e : x = m
    · subst e; rw [if_pos hx]
    · rw [if_neg (h2 m (by omega) (by omega))]
      exact ih (by omega) (fun y a c => h2 y a (by omega))
theorem cur_none {S : Nat → Nat → Int} {P : Nat → Nat} {D : Nat → Nat → Int} {b : Nat} : ∀ {m}, (∀ y, y < m → P y ≠ b) → curD S P D m b = S b := by
  intro m h
  induction m with
  | zero => rfl
  | succ m ih =>
    show (if P m = b then D m else curD S P D m b) = S b
    rw [if_neg (h m (by omega))]
    exact ih (fun y a => h y (by omega))
theorem dnL_mem {m x : Nat} : x ∈ dnL m 0 ↔ x < m := by
  unfold dnL
  simp
  constructor
  · rintro ⟨a, h1, h2⟩; omega
  · intro h; exact ⟨m - 1 - x, by omega, by omega⟩
theorem dnL_at {m i : Nat} (h : i < m) : (dnL m 0)[i]? = some (m - 1 - i) := by
  unfold dnL
  simp [h]
/-- where a part of the way down ends at x, all above x has come -/
theorem dnL_cut {m x : Nat} {pre : List Nat} (h : pre ++ [x] <+: dnL m 0) : x < m ∧ ∀ y, x < y → y < m → y ∈ pre := by
  obtain ⟨rest, hr⟩ := h
  have hlen := congrArg List.length hr
  rw [dnL_len, List.length_append, List.length_append] at hlen
  simp at hlen
  have hx : (dnL m 0)[pre.length]? = some x := by rw [← hr, List.append_assoc, List.getElem?_append_right (Nat.le_refl _), Nat.sub_self]; rfl
  rw [dnL_at (by omega)] at hx
  have hx' : m - 1 - pre.length = x := Option.some.inj hx
  refine ⟨by omega, fun y h1 h2 => ?_⟩
  have hy : (dnL m 0)[m - 1 - y]? = some y := by rw [dnL_at (by omega)]; congr 1; omega
  rw [← hr, List.append_assoc, List.getElem?_append_left (by omega)] at hy
  exact List.mem_of_getElem? hy
theorem load1 {P : Program} {t : TypeId} {d : TypeDesc} {w : World} {ad : Addr} {v : Value} (hu : P.underlying t = some d) (hd : (match d with | .struct _ | .array _ _ => true | _ => false) = false) (hc : w.cell? ad = some v) : (loadVar t ad).run P w = .ok v w := by
  have hagg : (isAgg t).run P w = .ok false w := by
    unfold isAgg
    rw [Sem.run_bind, run_underlying hu w]
    cases d <;> simp_all
  simp [loadVar, Sem.run_bind, hagg, go_sem, hc]
theorem results_cc {P : Program} {fn : Func} {a b : Tmp} {t t2 : TypeId} {tmps : Array Value} {w : World} {ad ad2 : Addr} {v u : Value} (h : fn.results = #[.cell a t, .cell b t2]) (ha : tmps.getD a undef = .pointer (some ad)) (hb : tmps.getD b undef = .pointer (some ad2)) (hl : (loadVar t ad).run P w = .ok v w) (hl2 : (loadVar t2 ad2).run P w = .ok u w) : (results fn tmps).run P w = .ok (.tuple #[v, u]) w := by
  simp at ha hb
  simp [results, h, ha, hb, hl, hl2, asAddr, Sem.run_bind]
theorem slice_all (g o : Nat) (W : World) : (Instr.sliceAt 67 (.pointer (some ⟨g, o, none⟩)) none none none).run Try.prog W = .ok (.slice (some ⟨g, o, none⟩) 512 512) W := by
  rw [run_sliceAt_array_all W _ _ under_B]
  obtain ⟨i, hi, hi1⟩ := Option.map_eq_some_iff.1 (show (Try.prog.info? 5).map (·.size) = some 1 by kernel_rfl)
  rw [elem_B, len_B]
  simp [sizeOf, typeInfo, hi, hi1, slicedAt, Addr.add]
section
variable {F : Fence} {n : Nat} {ops : Array Oper} {rest : List Oper} {dst : Option Tmp} {t : TypeId} {pos : String} {after : Array Edge} {x y : Operand} {a : Act} {w w' : World} {Q : Exit → Act → World → Prop}
theorem wpListIn_alW (h : wpListIn F n Try.prog ops Q rest (a.put dst (.pointer (some ⟨w.heap.size, 0, none⟩))) (w.alloc (.cells zWc 69))) : wpListIn F n Try.prog ops Q ({ dst, op := Op.alloc 69, type := t, pos, after, guard := none } :: rest) a w :=
  wpListIn_plain rfl fun _ hK => wpIn_alW (hK _ _ h)
theorem wpListIn_stW {u v : Value} (hv : storeV Try.prog 69 513 w u v = .ok () w') (hx : a.eval x = u) (hy : a.eval y = v) (h : wpListIn F n Try.prog ops Q rest (a.put dst undef) w') : wpListIn F n Try.prog ops Q ({ dst, op := Op.store 69 x y, type := t, pos, after, guard := none } :: rest) a w :=
  wpListIn_plain rfl fun _ hK => wpIn_stW (by rw [hx, hy]; exact hv) (hK _ _ h)
end
set_option maxRecDepth 100000 in
set_option maxHeartbeats 4000000 in
theorem read_main (B : Nat) (G : Nat → Prop) (d : DS) (z : Nat) (hz : z < d.n) (hdn : d.dn = false) (hn : d.n ≤ 4096) (hm : d.m ≤ 100000) (w : World) (h : DkIs w B G d) :
    Calls Try.prog 14 #[.pointer (some ⟨B, 0, none⟩), .int .i64 z] w fun r w' => ∃ v, r = .returned (.tuple #[v, .int .i64 0]) ∧ OwnS w' w.heap.size 5 1 v 512 (fun j => [.int .u8 (d.cur z j)]) ∧ Below w.heap.size w w' := by
  obtain ⟨sv, wv, h⟩ := h
  obtain ⟨gs, caps, Fs, rfl, _, hs1, hs2, hs3, hs4, hs5⟩ := h.safe.row (fun i => bytesL_len _) (by omega)
  obtain ⟨Aw, cw, rfl, hw1, hw2, hw3⟩ := h.waits.ssis (fun i => wcl_len _ _)
  have hb := h.box
  have hl := hb.lt
  have c0 : w.cell? ⟨B, 0, none⟩ = some (.slice (some ⟨gs, 0, none⟩) d.n caps) := Blk.cell hb 0
  have c1 : w.cell? ⟨B, 1, none⟩ = some (.slice Aw d.m cw) := Blk.cell hb 1
  have c3 : w.cell? ⟨B, 3, none⟩ = some (.bool false) := by rw [← hdn]; exact Blk.cell hb 3
  have hO := Lib.hid h.waits
  replace hs3 := Lib.hid hs3
  replace hs5 := Lib.hid hs5
  clear hw3 hb h
  refine (callsIn_wide (n := 7)).1 ?_
  refine callsIn_of_wp_marks Try.func14 rfl trivial ?_ rfl
  simp only [Try.ntmps14, List.size_toArray, List.length_cons, List.length_nil, Nat.reduceAdd, Nat.reduceSub, Array.replicate_succ, Array.replicate_zero, List.push_toArray, List.append_toArray, List.nil_append, List.cons_append]
  refine wpIn_wide.2 ?_
  go_upto_region 1 with fail
  refine abs_wp (fun X => Below w.heap.size w X ∧ Blk X w.heap.size 3 #[.int .i64 z] ∧ Blk X (w.heap.size + 1) 39 #[.slice none 0 0] ∧ Blk X (w.heap.size + 1 + 1) 25 #[.int .i64 0]) ⟨by (repeat (first | exact Below.refl _ _ | assumption | refine below_drewN ?_ _ | refine bel_grow ?_ _ | refine Below.drew ?_ | refine bel_alloc ?_ _ | refine bel_set ?_ (by first | exact Nat.le_refl _ | (simp; done) | (simp; omega) | omega) _ | refine bel_trans ?_ (by assumption))), ((Blk.new _ _ _).alloc _).alloc _, (Blk.new' (by simp)).alloc _, Blk.new' (by simp)⟩ ?_
  rintro X ⟨hbX, b3, b4, b5⟩
  have k0 := keepc hbX c0
  have k1 := keepc hbX c1
  have k3 := keepc hbX c3
  have kl := Nat.lt_of_lt_of_le hl hbX.size
  have kz : X.cell? ⟨w.heap.size, 0, none⟩ = some (.int .i64 z) := Blk.cell b3 0
  have kzl := b3.lt
  have d1 : decide ((z : Int) < 0) = false := decide_eq_false (by omega)
  have d2 : decide (((d.n : Nat) : Int) ≤ z) = false := decide_eq_false (by omega)
  replace hbX := Lib.hid hbX
  replace b3 := Lib.hid b3
  replace b4 := Lib.hid b4
  replace b5 := Lib.hid b5
  clear c0 c1 c3
  go_upto_region 3 with fail
  first | (with_reducible refine rgrow2 (by kernel_rfl) (by kernel_rfl) ?_) | (refine rgrow (by kernel_rfl) (by kernel_rfl) ?_)
  repeat (go_big_quiet_step ((fail)))
  refine wpQuiet_nil ?_
  intro dr
  have k1' := keepc (grow_below X dr) k1
  have kl' := Nat.lt_of_lt_of_le kl (grow_below X dr).size
  have cBk := Lib.hid (fun W => callsIn_wide.1 (back_in Fence.wide 7 trivial rfl (.slice Aw d.m cw) rfl W))
  go_wp2_with fail
  refine (cBk.out _).mono ?_
  rintro e w' ⟨rfl, rfl⟩
  go_wp2_with fail
  have hgx : (Grow X dr).heap.size < (World.alloc (Grow X dr) (.cells #[.slice Aw d.m cw] 63)).heap.size := by simp
  have hcx : World.cell? (World.alloc (Grow X dr) (.cells #[.slice Aw d.m cw] 63)) ⟨(Grow X dr).heap.size, 0, none⟩ = some (.slice Aw d.m cw) := Blk.cell (Blk.new _ 63 #[.slice Aw d.m cw]) 0
  have hbe : Below X.heap.size X (World.alloc (Grow X dr) (.cells #[.slice Aw d.m cw] 63)) := bel_alloc (grow_below X dr) _
  have hb0 := Lib.hid (bel_eld hbX.out hbe)
  have e3 := Lib.hid (b3.out.kept hbe)
  have e4 := Lib.hid (b4.out.kept hbe)
  have e5 := Lib.hid (b5.out.kept hbe)
  have hO0 := Lib.hid (hO.out.kept hb0.out)
  have j0 := keepc hbe k0
  have jl := Nat.lt_of_lt_of_le kl hbe.size
  have hS0 := Lib.hid (hs3.out.kept hb0.out)
  clear k0 k1 kl kz kzl d1 d2 b3 b4 b5 k1' kl' cBk hbX hbe hO hs3
  generalize (Grow X dr).heap.size = gx at *
  generalize World.alloc (Grow X dr) (.cells #[.slice Aw d.m cw] 63) = W0 at *
  have e4l := e4.out.lt
  have e5l := e5.out.lt
  have e3l := e3.out.lt
  refine (wpIn_wide (n := 7)).1 ?_
  refine wpIn_rangeFunc_ownH rfl (by omega) (gf := 37) (lb := #[.pointer (some ⟨gx, 0, none⟩)]) rfl trivial (enters_of Try.func37 (by kernel_rfl) rfl)
    (back_stops Fence.wide (7 - 1) trivial rfl (by omega) gx Aw d.m cw d.P d.D hw1 hw2 hm W0 hgx hcx hO0.out) belowK_t (belowK_b (Nat.le_refl _)) (Below.refl _ _) (fun _ => rfl)
    (fun pre W => Below W0.heap.size W0 W ∧ ∀ y ∈ pre, d.P y ≠ z)
    (fun c pre W => c = .ret ∧ ∃ (x : Nat) (pre' : List Nat) (v : Value), pre = pre' ++ [x] ∧ (∀ y ∈ pre', d.P y ≠ z) ∧ d.P x = z ∧ Blk W (w.heap.size + 1) 39 #[v] ∧ Blk W (w.heap.size + 1 + 1) 25 #[.int .i64 0] ∧ OwnS W w.heap.size 5 1 v 512 (fun j => [.int .u8 (d.D x j)]) ∧ Below w.heap.size w W)
    (fun s X Y row hs hg hr => ⟨ownFrom_below (β := Unit) (Nat.le_refl _) (Nat.le_refl _) () X Y row hs.1 hg hr, hs.2⟩)
    (fun c s X Y row hs hg hr => by
      obtain ⟨rfl, x, pre', v, h1, h2, h3, h4, h5, h6, h7⟩ := hs
      exact ⟨rfl, x, pre', v, h1, h2, h3, h4.turned hg (fun r e => (hr r e).2), h5.turned hg (fun r e => (hr r e).2), h6.turned hg (fun r e => (hr r e).2), ownFrom_below (β := Unit) (Nat.le_refl _) hb0.out.size () X Y row h7 hg hr⟩)
    ⟨Below.refl _ _, fun y hy => by cases hy⟩
    (fun x a' W => ∃ Bx, W0.heap.size ≤ Bx ∧ Blk W Bx 69 (wcl (d.P x : Nat) (d.D x)).toArray ∧ a' = { tmps := #[Value.pointer (some { block := B, off := 0 }), Value.int IntKind.i64 ↑z, undef, Value.pointer (some { block := w.heap.size, off := 0 }), Value.pointer (some { block := w.heap.size + 1, off := 0 }), Value.pointer (some { block := w.heap.size + 1 + 1, off := 0 }), undef, Value.pointer (some { block := Bx, off := 0 }), Value.bool false, Value.pointer (some { block := B, off := 0 }), Value.pointer (some { block := B, off := 0 }), Value.pointer (some { block := B, off := 3 }), Value.bool false, Value.bool false, Value.int IntKind.i64 ↑z, Value.bool false, Value.bool false, Value.int IntKind.i64 ↑z, Value.pointer (some { block := B, off := 0 }), Value.pointer (some { block := B, off := 0 }), Value.pointer (some { block := B, off := 0 }), Value.slice (some { block := gs, off := 0 }) d.n caps, Value.int IntKind.i64 ↑d.n, Value.bool false, Value.bool false, Value.pointer (some { block := B, off := 0 }), Value.pointer (some { block := B, off := 0 }), Value.pointer (some { block := B, off := 1 }), Value.slice Aw d.m cw, Value.func (Fn.func 37) #[] #[Value.pointer (some { block := gx, off := 0 })], Value.int IntKind.i64 (x : Nat), wV (d.P x : Nat) (d.D x), undef, undef, undef, undef, undef, undef, undef, undef, undef, undef, undef, undef, undef, undef, undef], defers := [] })
    (fun x a' _ X Y row hs hg hr => by obtain ⟨Bx, h1, h2, h3⟩ := hs; exact ⟨Bx, h1, h2.turned hg (fun r e => (hr r e).2), h3⟩)
    ?assign ?body ?done ?stop
  case assign =>
    rintro l pre x W K ⟨hBW, hne⟩ hK
    obtain ⟨W8, hst8, hb8, hbel8, hlt8⟩ := new_W W (d.P x : Nat) (d.D x)
    have hsW := hBW.size
    unfold wEnc
    gi_wp2_with (first | refine wpListIn_alW ?_ | refine wpListIn_stW hst8 (by kernel_rfl) (by kernel_rfl) ?_)
    exact hK _ _ (keepsFrom_below hbel8) (hbel8.mono hsW) ⟨hBW.trans (hbel8.mono hsW), hne⟩ ⟨W.heap.size, hsW, hb8, rfl⟩
  case body =>
    rintro l pre x a' W hl ⟨r, hr⟩ ⟨hBW, hne⟩ ⟨Bx, hBx, bX, rfl⟩ hlt
    obtain ⟨x0, x1⟩ := cell_W bX
    have xl := bX.lt
    have z0 : W.cell? ⟨w.heap.size, 0, none⟩ = some (.int .i64 z) := Blk.cell (e3.out.kept hBW) 0
    have h1' : 1 ≤ 7 - 1 - 1 := by omega
    by_cases hx : d.P x = z
    · have hss : SsIs W (some ⟨Bx, 1, none⟩) 512 1 (fun j => [.int .u8 (d.D x j)]) := fun _ => ⟨Bx, 1, rfl, xl, fun j hj i u hu => by
        match i, hu with
        | 0, hu =>
          cases hu
          have := x1 j hj
          simpa using this⟩
      have cC := Lib.hid (clone_By_any (some ⟨Bx, 1, none⟩) 512 512 (fun j => [.int .u8 (d.D x j)]) (fun _ => rfl) (fun _ u hu => by simp only [List.mem_cons, List.not_mem_nil, or_false] at hu; subst hu; rfl) (by omega) W hss)
      have hsl := fun W' => slice_all Bx 1 W'
      have g4 := Lib.hid (e4.out.kept hBW)
      have g5 := Lib.hid (e5.out.kept hBW)
      have hbW := Lib.hid (bel_eld hb0.out hBW)
      have hxx := Lib.hid hx
      rw [hx] at x0
      clear x1 hss bX hr
      gi_wp2
      refine ⟨trivial, ?_⟩
      refine (CallsIn.inRound l (callsIn_wide.2 cC.out)).mono ?_
      rintro e6 w6 ⟨v6, rfl, ho6, hb6⟩
      obtain ⟨A6, c6, rfl⟩ := ho6.form
      have q4 := g4.out.kept hb6
      have q5 := g5.out.kept hb6
      have n4 := q4.cell 0
      have n5 := q5.cell 0
      have m4 := q4.frozen 0
      have m5 := q5.frozen 0
      have l4 := q4.lt
      have l5 := q5.lt
      have hsW := hBW.size
      have hs6 := hb6.size
      have hfin : Hid (KeepsFrom W0.heap.size W ((w6.setCell ⟨w.heap.size + 1, 0, none⟩ (.slice A6 512 c6)).setCell ⟨w.heap.size + 1 + 1, 0, none⟩ (.int .i64 0)) ∧ (fun c pre W => c = Code.ret ∧ ∃ (x : Nat) (pre' : List Nat) (v : Value), pre = pre' ++ [x] ∧ (∀ y ∈ pre', d.P y ≠ z) ∧ d.P x = z ∧ Blk W (w.heap.size + 1) 39 #[v] ∧ Blk W (w.heap.size + 1 + 1) 25 #[.int .i64 0] ∧ OwnS W w.heap.size 5 1 v 512 (fun j => [.int .u8 (d.D x j)]) ∧ Below w.heap.size w W) Code.ret (pre ++ [x]) ((w6.setCell ⟨w.heap.size + 1, 0, none⟩ (.slice A6 512 c6)).setCell ⟨w.heap.size + 1 + 1, 0, none⟩ (.int .i64 0))) := Lib.hid (by
        have hsT := ((Tch.refl (fun k => k = w.heap.size + 1 ∨ k = w.heap.size + 1 + 1) w6).set (p := ⟨w.heap.size + 1, 0, none⟩) (fun _ => Or.inl rfl) (.slice A6 512 c6)).set (p := ⟨w.heap.size + 1 + 1, 0, none⟩) (fun _ => Or.inr rfl) (.int .i64 0)
        refine ⟨(keepsFrom_below hb6).trans (((KeepsOthers.setCell _ _ _).from _).trans ((KeepsOthers.setCell _ _ _).from _)), rfl, x, pre, .slice A6 512 c6, rfl, hne, hxx.out, (Blk.set' q4 0 _ rfl).far (by dsimp only; omega) _, Blk.set' (q5.far (by dsimp only; omega) _) 0 _ rfl, ?_, ?_⟩
        · have h0 : OwnS w6 w.heap.size 5 1 (.slice A6 512 c6) 512 (fun j => [.int .u8 (d.D x j)]) := ⟨ho6.1, ho6.2.imp id (fun ⟨g, cap, cur, a, b, c⟩ => ⟨g, cap, cur, a, by omega, c⟩)⟩
          exact h0.tch hsT (fun b x => by have := (ho6.lt b x).1; omega)
        · exact (bel_eld hbW.out hb6).trans (hsT.below (by have := hbW.out.size; omega) (fun k h1 h2 => by omega)))
      clear ho6 hb6 q4 q5 cC g4 g5 hbW
      gi_wp2
      obtain ⟨p1, _, p2⟩ := hfin.out
      exact ⟨p1, rfl, p2⟩
    · have hxn : ¬ ((d.P x : Nat) : Int) = z := by omega
      gi_wp2
      exact ⟨KeepsFrom.refl _ _, Below.refl _ _, hBW, fun y hy => by
        rcases List.mem_append.1 hy with h | h
        · exact hne y h
        · simp at h; subst h; exact hx⟩
  case stop =>
    rintro D c pre W hD hpre ⟨rfl, x, pre', v, rfl, hne, hx, q4, q5, ho, hbW⟩ hK
    obtain ⟨hxm, hall⟩ := dnL_cut hpre
    have hcur : d.cur z = d.D x := cur_found hx hxm (fun y a b => hne y (hall y a b))
    replace hcur := Lib.hid hcur
    have t4 : World.cell? _ ⟨w.heap.size + 1, 0, none⟩ = some v := cell_kept (q4.cell 0) (grownBy_putObj' _ D (.deferred none)) (fun r e => by cases e; exact ⟨_, hK, rfl⟩)
    have t5 : World.cell? _ ⟨w.heap.size + 1 + 1, 0, none⟩ = some (.int .i64 0) := cell_kept (q5.cell 0) (grownBy_putObj' _ D (.deferred none)) (fun r e => by cases e; exact ⟨_, hK, rfl⟩)
    have ho' := ho.turned (grownBy_putObj' _ D (.deferred none)) (fun r e => by cases e; exact ⟨_, hK, rfl⟩)
    have hbD := ownFrom_below (β := Unit) (Nat.le_refl _) hb0.out.size () _ _ _ hbW (grownBy_putObj' _ D (.deferred none)) (fun r e => by cases e; exact ⟨hD, _, hK, rfl⟩)
    refine wpIn_wide.2 ?_
    clear q4 q5 ho hbW
    go_wp2_with fail
    refine ⟨by simp, .inl ⟨_, _, rfl, run_takeDeferred hK, ?_⟩⟩
    exact ⟨_, results_cc Try.results14 rfl rfl (load1 Try.underlying39 rfl t4) (load1 Try.underlying25 rfl t5), v, rfl, by rw [hcur.out]; exact ho', hbD⟩
  case done =>
    rintro D ys W hD rfl ⟨hBW, hne⟩ hK
    have hcur : Hid (d.cur z = d.S z) := Lib.hid (cur_none (fun y hy => hne y (dnL_mem.2 hy)))
    have g4 := Lib.hid (e4.out.kept hBW)
    have g5 := Lib.hid (e5.out.kept hBW)
    have hbW := Lib.hid (bel_eld hb0.out hBW)
    have z0 : W.cell? ⟨w.heap.size, 0, none⟩ = some (.int .i64 z) := Blk.cell (e3.out.kept hBW) 0
    have y0 := keepc hBW j0
    have yl := Nat.lt_of_lt_of_le jl hBW.size
    have y3l := Nat.lt_of_lt_of_le e3l hBW.size
    have hss : SsIs W.drew (some ⟨gs, z * 512, none⟩) 512 1 (fun j => [.int .u8 (d.S z j)]) := fun _ => by
      have hr := (hS0.out.kept hBW).drew
      refine ⟨gs, z * 512, rfl, hr.lt, fun j hj i u hu => ?_⟩
      match i, hu with
      | 0, hu =>
        cases hu
        have h1 := Blk.cell hr (z * 512 + j)
        rw [List.getElem?_toArray, rowC_at hs4 hj (by omega), hs5.out z hz, bytesL_at _ hj] at h1
        simpa using h1
    have cC := Lib.hid (clone_By_any (some ⟨gs, z * 512, none⟩) 512 512 (fun j => [.int .u8 (d.S z j)]) (fun _ => rfl) (fun _ u hu => by simp only [List.mem_cons, List.not_mem_nil, or_false] at hu; subst hu; rfl) (by omega) W.drew hss)
    replace hss : Hid (SsIs W (some ⟨gs, z * 512, none⟩) 512 1 (fun j => [.int .u8 (d.S z j)])) := Lib.hid hss
    have hsl := fun W' => slice_all gs (z * 512) W'
    have hsW := hBW.size
    replace hK := Lib.hid hK
    clear hne hBW cC
    go_wp2_with fail
    first | (with_reducible refine rtail2 7 (by kernel_rfl) (by kernel_rfl) ?_) | (refine rtail 7 (by kernel_rfl) (by kernel_rfl) ?_)
    simp only [List.take_succ_cons, List.take_zero, List.drop_succ_cons, List.drop_zero]
    repeat (go_big_quiet_step ((fail)))
    refine wpQuiet_nil ?_
    intro dr
    have hgr := grow_below W dr
    have cC2 := Lib.hid (clone_By_any (some ⟨gs, z * 512, none⟩) 512 512 (fun j => [.int .u8 (d.S z j)]) (fun _ => rfl) (fun _ u hu => by simp only [List.mem_cons, List.not_mem_nil, or_false] at hu; subst hu; rfl) (by omega) (Grow W dr) (hss.out.below hgr))
    go_wp2_with fail
    refine cC2.out.mono ?_
    rintro e6 w6 ⟨v6, rfl, ho6, hb6⟩
    obtain ⟨A6, c6, rfl⟩ := ho6.form
    have q4 := Lib.hid ((g4.out.kept hgr).kept hb6)
    have q5 := Lib.hid ((g5.out.kept hgr).kept hb6)
    have n4 := q4.out.cell 0
    have n5 := q5.out.cell 0
    have m4 := q4.out.frozen 0
    have m5 := q5.out.frozen 0
    have l4 := q4.out.lt
    have l5 := q5.out.lt
    have hgs2 := hgr.size
    replace ho6 := Lib.hid ho6
    have hb6 := Lib.hid (bel_eld hgr hb6)
    (
      have hs6 := hb6.out.size
      have hK6 : w6.heap[D]? = some (.deferred (some [])) := (hb6.out.block D (by have := (Array.getElem?_eq_some_iff.1 hK.out).1; omega)).trans hK.out
      have hKf : ((w6.setCell ⟨w.heap.size + 1, 0, none⟩ (.slice A6 512 c6)).setCell ⟨w.heap.size + 1 + 1, 0, none⟩ (.int .i64 0)).heap[D]? = some (.deferred (some [])) := (KeepsOthers.setCell _ _ _).same D _ ((KeepsOthers.setCell _ _ _).same D _ hK6 rfl) rfl
      have hsT := ((Tch.refl (fun k => k = w.heap.size + 1 ∨ k = w.heap.size + 1 + 1) w6).set (p := ⟨w.heap.size + 1, 0, none⟩) (fun _ => Or.inl rfl) (.slice A6 512 c6)).set (p := ⟨w.heap.size + 1 + 1, 0, none⟩) (fun _ => Or.inr rfl) (.int .i64 0)
      have b4 : Blk ((w6.setCell ⟨w.heap.size + 1, 0, none⟩ (.slice A6 512 c6)).setCell ⟨w.heap.size + 1 + 1, 0, none⟩ (.int .i64 0)) (w.heap.size + 1) 39 #[.slice A6 512 c6] := (Blk.set' q4.out 0 _ rfl).far (by dsimp only; omega) _
      have b5 : Blk ((w6.setCell ⟨w.heap.size + 1, 0, none⟩ (.slice A6 512 c6)).setCell ⟨w.heap.size + 1 + 1, 0, none⟩ (.int .i64 0)) (w.heap.size + 1 + 1) 25 #[.int .i64 0] := Blk.set' (q5.out.far (by dsimp only; omega) _) 0 _ rfl
      have ho0 : OwnS w6 w.heap.size 5 1 (.slice A6 512 c6) 512 (fun j => [.int .u8 (d.S z j)]) := ⟨ho6.out.1, ho6.out.2.imp id (fun ⟨g, cap, cur, a, b, c⟩ => ⟨g, cap, cur, a, by omega, c⟩)⟩
      have hoT := ho0.tch hsT (fun b x => by have := (ho6.out.lt b x).1; omega)
      have hbT : Below w.heap.size w ((w6.setCell ⟨w.heap.size + 1, 0, none⟩ (.slice A6 512 c6)).setCell ⟨w.heap.size + 1 + 1, 0, none⟩ (.int .i64 0)) := (bel_eld hbW.out hb6.out).trans (hsT.below (by have := hbW.out.size; omega) (fun k h1 h2 => by omega))
      have t4 : World.cell? _ ⟨w.heap.size + 1, 0, none⟩ = some (.slice A6 512 c6) := cell_kept (b4.cell 0) (grownBy_putObj' _ D (.deferred none)) (fun r e => by cases e; exact ⟨_, hKf, rfl⟩)
      have t5 : World.cell? _ ⟨w.heap.size + 1 + 1, 0, none⟩ = some (.int .i64 0) := cell_kept (b5.cell 0) (grownBy_putObj' _ D (.deferred none)) (fun r e => by cases e; exact ⟨_, hKf, rfl⟩)
      have ho' := Lib.hid (hoT.turned (grownBy_putObj' _ D (.deferred none)) (fun r e => by cases e; exact ⟨_, hKf, rfl⟩))
      have hbD := Lib.hid (ownFrom_below (β := Unit) (Nat.le_refl _) hb0.out.size () _ _ _ hbT (grownBy_putObj' _ D (.deferred none)) (fun r e => by cases e; exact ⟨hD, _, hKf, rfl⟩))
      replace hKf := Lib.hid hKf
      replace t4 := Lib.hid t4
      replace t5 := Lib.hid t5
      clear hsT b4 b5 ho0 hoT hbT hK6 q4 q5 ho6 hb6
      go_wp2_with fail
      refine ⟨by simp, .inl ⟨_, _, rfl, run_takeDeferred hKf.out, ?_⟩⟩
      exact ⟨_, results_cc Try.results14 rfl rfl (load1 Try.underlying39 rfl t4.out) (load1 Try.underlying25 rfl t5.out), _, rfl, by rw [hcur.out]; exact ho'.out, hbD.out⟩)
end Go.Proofs.Ytnbfnlpepnbppaa
