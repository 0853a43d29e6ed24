/-
  The heads' Pop and Push, walked.
-/
import Derived.Test.YtecaegjonhimmaaMgE
namespace Go.Proofs.Ytecaegjonhimmaa
set_option linter.unusedVariables false
set_option linter.unusedSimpArgs false
open Go.RowKit Go.Shelf

theorem info_Hd : (Try.prog.info? 60).map (fun i => (i.zero, i.size, i.bytes)) = some (some (.agg #[.int .u64 0, .int .u64 0, .int .u64 0, .int .u8 0, .int .i64 0, .nilFunc]), 6, 48) := by kernel_rfl
set_option maxHeartbeats 4000000 in
theorem hpop_any (B g cap n : Nat) (dn : Bool) (H : Hs) (pl : Nat → Nat) (hn : 1 ≤ n) (hn2 : n ≤ 1000000) (w : World) (h : HeIs w B g cap n dn H pl) :
    Calls Try.prog 46 #[.pointer (some ⟨B, 0, none⟩)] w fun r w' => (∃ v, r = .returned v) ∧ HeIs w' B g cap (n - 1) dn H pl ∧ Tch (fun k => k = B) w w' := by
  obtain ⟨hB, ⟨F, hr⟩, hne⟩ := id h
  obtain ⟨i, hi⟩ : ∃ i, n = i + 1 := ⟨n - 1, by omega⟩
  subst hi
  rw [show i + 1 - 1 = i by omega]
  have hl := hr.blk.lt
  have hic : i < i + 1 := by omega
  have a0 : w.cell? ⟨g, i * 6, none⟩ = some (.int .u64 (H.it (pl i) 0)) := hr.cell hic (m := 0) (by omega)
  have a1 : w.cell? ⟨g, i * 6 + 1, none⟩ = some (.int .u64 (H.it (pl i) 1)) := hr.cell hic (m := 1) (by omega)
  have a2 : w.cell? ⟨g, i * 6 + 2, none⟩ = some (.int .u64 (H.it (pl i) 2)) := hr.cell hic (m := 2) (by omega)
  have a3 : w.cell? ⟨g, i * 6 + 3, none⟩ = some (.int .u8 (H.it (pl i) 3)) := hr.cell hic (m := 3) (by omega)
  have a4 : w.cell? ⟨g, i * 6 + 4, none⟩ = some (.int .i64 (pl i)) := hr.cell hic (m := 4) (by omega)
  have a5 : w.cell? ⟨g, i * 6 + 5, none⟩ = some (.func (.func (H.gs (pl i))) #[] (H.lb (pl i))) := hr.cell hic (m := 5) (by omega)
  have hcap := hr.le
  have hmax := hr.max
  unfold maxLen at hmax
  have hBl := hB.lt
  have c0 : w.cell? ⟨B, 0, none⟩ = some (.slice (some ⟨g, 0, none⟩) (i + 1) cap) := Blk.cell hB 0
  have f0 := Blk.frozen hB 0
  have hfin : Hid (∀ X, Below w.heap.size w X → HeIs (X.setCell ⟨B, 0, none⟩ (.slice (some ⟨g, 0, none⟩) i cap)) B g cap i dn H pl ∧ Tch (fun k => k = B) w (X.setCell ⟨B, 0, none⟩ (.slice (some ⟨g, 0, none⟩) i cap))) := Lib.hid (fun X hX => by
    have hk := h.kept hX
    refine ⟨⟨Blk.set' hk.cells 0 _ rfl, ?_, hne⟩, ((tch_of hX (fun k => k = B))).set (fun _ => rfl) _⟩
    obtain ⟨F2, hr2⟩ := hk.row
    exact ⟨F2, hr2.blk.far (by dsimp only; omega) _, hr2.len, by have := hr2.le; omega, hr2.max, fun m hm => hr2.at_ m (by omega)⟩)
  clear h hr hB
  generalize H.it (pl i) 0 = x0 at *
  generalize H.it (pl i) 1 = x1 at *
  generalize H.it (pl i) 2 = x2 at *
  generalize H.it (pl i) 3 = x3 at *
  generalize H.gs (pl i) = x5 at *
  generalize H.lb (pl i) = x6 at *
  generalize pl i = s at *
  go_enter Try.func46, Try.ntmps46
  go_wp2_with fail
  go_region
  refine abs_exit (fun X => Below w.heap.size w X ∧ Blk X w.heap.size 60 #[.int .u64 x0, .int .u64 x1, .int .u64 x2, .int .u8 x3, .int .i64 s, .func (.func x5) #[] x6]) ⟨by (repeat (first | exact Below.refl _ _ | assumption | refine below_drewN ?_ _ | refine bel_grow ?_ _ | refine Below.drew ?_ | refine bel_alloc ?_ _ | refine bel_set ?_ (by first | exact Nat.le_refl _ | (simp; done) | (simp; omega) | omega) _ | refine bel_trans ?_ (by assumption))), (by ((repeat (with_reducible refine Blk.drew ?_)); first | exact Blk.new _ _ _ | exact Blk.new' rfl))⟩ ?_
  rintro X ⟨hbX, gX⟩
  have c0X := keepc hbX c0
  have f0X : X.frozen? ⟨B, 0, none⟩ = false := (hbX.frozen (p := ⟨B, 0, none⟩) hBl).trans f0
  have lX := Nat.lt_of_lt_of_le hBl hbX.size
  have kw : IntKind.i64.wrap ((i : Int) + 1 - 1) = (i : Int) := by rw [IntKind.wrap_i64]; omega
  have hf := hfin.out _ hbX
  have g0 := gX.cell 0
  have g1 := gX.cell 1
  have g2 := gX.cell 2
  have g3 := gX.cell 3
  have g4 := gX.cell 4
  have g5 := gX.cell 5
  have hBne : B ≠ w.heap.size := by omega
  replace hf := Lib.hid hf
  replace hbX := Lib.hid hbX
  clear gX a0 a1 a2 a3 a4 a5
  go_wp2_with fail
  go_region
  go_wp2_with fail
  go_ret
  exact ⟨⟨_, rfl⟩, hf.out.1.kept (Below.drew (Below.refl _ _)), hf.out.2.drew⟩
/-- the heads at B: none yet, or their row at or beyond base -/
def HSt (w : World) (B base n : Nat) (dn : Bool) (H : Hs) (pl : Nat → Nat) : Prop := (n = 0 ∧ HsIs w B (.slice none 0 0) dn H.src) ∨ ∃ g cap, base ≤ g ∧ HeIs w B g cap n dn H pl
theorem HeIs.own {w : World} {B g cap n base : Nat} {dn : Bool} {H : Hs} {pl : Nat → Nat} (h : HeIs w B g cap n dn H pl) (hb : base ≤ g) : OwnS w base 60 6 (.slice (some ⟨g, 0, none⟩) n cap) n (fun i => hcl H (pl i)) := by
  obtain ⟨F, hr⟩ := h.row
  exact OwnS.of_row hr.blk hr.len hr.at_ hb hr.le hr.max
theorem HSt.own {w : World} {B base n : Nat} {dn : Bool} {H : Hs} {pl : Nat → Nat} (h : HSt w B base n dn H pl) : ∃ A c, HsIs w B (.slice A n c) dn H.src ∧ OwnS w base 60 6 (.slice A n c) n (fun i => hcl H (pl i)) := by
  rcases h with ⟨rfl, h⟩ | ⟨g, cap, hb, h⟩
  · exact ⟨none, 0, h, OwnS.nil _ _ _ _ _⟩
  · exact ⟨_, _, h.cells, h.own hb⟩
theorem HSt.of_own {w : World} {B base n : Nat} {dn : Bool} {H : Hs} {pl : Nat → Nat} {v : Value} (hB : B < base) (hn : 0 < n) (h1 : HsIs w B v dn H.src) (h2 : OwnS w base 60 6 v n (fun i => hcl H (pl i))) : ∃ g cap, base ≤ g ∧ HeIs w B g cap n dn H pl := by
  obtain ⟨g, cap, F, rfl, hb, h3, h4, h5, h6, h7⟩ := h2.row (fun _ => rfl) hn
  exact ⟨g, cap, hb, h1, ⟨F, h5, h6, h3, h4, h7⟩, by omega⟩
theorem assert_hd (v : Value) (w : World) : (Instr.typeAssert (.iface 60 v) 20 60 true).run Try.prog w = .ok (.tuple #[v, .bool true]) w := by
  first | rfl | kernel_rfl
section
variable {ops : Array Oper} {o : Oper} {a : Act} {w : World} {Q : Exit → Act → World → Prop} {K : Act → World → Prop}
theorem step_appS {E : Prop} (hgd : o.guard = none) (s y : Operand) {t e by_ k : Nat} {z : Value} {t0 : TypeId} (hu : Try.prog.underlying t = some (.slice e)) (hi5 : (Try.prog.info? e).map (fun i => (i.zero, i.size, i.bytes)) = some (some z, k, by_)) (hz : z.cells.size = k) (hk : 0 < k) (hby : by_ ≤ 256)
    (ho : o.op = .call { callee := .builtin .append, args := #[s, y], argTypes := #[t, t] })
    {base : Nat} {v : Value} {n g c : Nat} {f : Nat → List Value} (hs : a.eval s = v) (hy : a.eval y = .slice (some ⟨g, 0, none⟩) 1 c) (hO : OwnS w base e k v n f) (hl : (f n).length = k) (hB : Blk w g t0 (f n).toArray) (h1 : ∀ u ∈ f n, u.oneCell' = true) (h : n ≤ 1000000) (hbase : base ≤ w.heap.size)
    (hK : ∀ v' w', OwnS w' base e k v' (n + 1) f → Below base w w' → K (a.put o.dst v') w') :
    if Region.wanted o (yielded ops a.tmps) = true then Oper.wp Try.prog o a w K Q else E := by
  have hw : Region.wanted o (yielded ops a.tmps) = true := by simp [Region.wanted, hgd]
  rw [if_pos hw]
  obtain ⟨v', w', hr, h2, h3⟩ := run_appS (c := c) o.type hu hi5 hz hk hby hO hl hB h1 h hbase
  exact Lib.wp_append_run w s y _ _ ho _ _ hs hy v' w' hr (hK v' w' h2 h3)
end
theorem Tch.of_below {B : Nat} {a b : World} (h : Below B a b) : Tch (fun k => B ≤ k) a b := ⟨h.os, h.tape, h.output, h.size, fun k _ hn => h.block k (by omega)⟩
section
attribute [local go_sem] loadV_ptr storeV_ptr
attribute [local go_sem ↓] load_Hd store_Hd
set_option maxHeartbeats 4000000 in
theorem hpush_any (B base n : Nat) (dn : Bool) (H : Hs) (pl : Nat → Nat) (hB : B < base) (hn : n ≤ 1000) (w : World) (hbase : base ≤ w.heap.size) (h : HSt w B base n dn H pl) :
    Calls Try.prog 47 #[.pointer (some ⟨B, 0, none⟩), .iface 60 (.agg (hcl H (pl n)).toArray)] w fun r w' => r = .returned (.tuple #[]) ∧ HSt w' B base (n + 1) dn H pl ∧ Tch (fun k => k = B ∨ base ≤ k) w w' := by
  obtain ⟨A, c, hs, ho⟩ := h.own
  clear h
  have hA := assert_hd
  have hone := hcl_one H (pl n)
  have hlen := hcl_len H (pl n)
  obtain ⟨vh, hvh⟩ : ∃ vh, vh = hcl H (pl n) := ⟨_, rfl⟩
  have e1 : vh = [.int .u64 (H.it (pl n) 0), .int .u64 (H.it (pl n) 1), .int .u64 (H.it (pl n) 2), .int .u8 (H.it (pl n) 3), .int .i64 (pl n), .func (.func (H.gs (pl n))) #[] (H.lb (pl n))] := hvh
  rw [← hvh] at hone hlen ⊢
  rw [e1]
  replace hvh := Lib.hid hvh
  replace e1 := Lib.hid e1
  have hsB := Lib.hid hs
  have hBl := hs.lt
  replace ho := Lib.hid ho
  clear hs
  obtain ⟨fH, hfH⟩ : ∃ fH, fH = fun i => hcl H (pl i) := ⟨_, rfl⟩
  rw [← hfH] at ho
  replace hfH := Lib.hid hfH
  generalize H.it (pl n) 0 = x0 at *
  generalize H.it (pl n) 1 = x1 at *
  generalize H.it (pl n) 2 = x2 at *
  generalize H.it (pl n) 3 = x3 at *
  generalize H.gs (pl n) = x5 at *
  generalize H.lb (pl n) = x6 at *
  generalize hpn : pl n = s at *
  replace hpn := Lib.hid hpn
  go_enter Try.func47, Try.ntmps47
  go_upto_region 2 with fail
  have hfn : Hid (fH n = vh) := Lib.hid (by rw [hfH.out, hvh.out]; show hcl H (pl n) = _; rw [hpn.out])
  refine abs_wp (fun X => Below w.heap.size w X ∧ Blk X w.heap.size 60 #[.int .u64 x0, .int .u64 x1, .int .u64 x2, .int .u8 x3, .int .i64 s, .func (.func x5) #[] x6]) ⟨bel_alloc (Below.refl _ _) _, Blk.new _ _ _⟩ ?_
  rintro X ⟨hbX, gX⟩
  have hBX := Lib.hid (hsB.out.kept hbX)
  have hoX := Lib.hid (ho.out.kept hbX)
  have lB := hBX.out.lt
  have rX := rowAt_blk gX
  have lX := gX.lt
  have c0 : X.cell? ⟨B, 0, none⟩ = some (.slice A n c) := Blk.cell hBX.out 0
  have f0 := Blk.frozen hBX.out 0
  have hbsX := Nat.le_trans hbase hbX.size
  replace hbX := Lib.hid hbX
  replace gX := Lib.hid gX
  clear ho hsB
  go_region_law (go_loud (refine step_appS (t0 := 60) rfl (.tmp 16) (.tmp 18) (t := 53) Try.underlying53 info_Hd rfl (by omega) (by omega) rfl rfl rfl (OwnS.kept hoX.out (bel_alloc (Below.drew (Below.refl _ _)) _)) (by rw [hfn.out]; exact hlen) (by rw [hfn.out, e1.out]; exact Blk.new' rfl) (by rw [hfn.out]; exact hone) (by omega) (Nat.le_trans hbsX (bel_alloc (Below.drew (Below.refl _ _)) _).size) ?_); intro v1 w1 ho1 hb1; obtain ⟨A1, c1, rfl, _, _, _⟩ := ho1.ssis (by rw [hfH.out]; exact fun _ => rfl); have hB1 := Blk.lowb ((Blk.drew hBX.out).alloc _) hb1 hB; have z0 : w1.cell? ⟨B, 0, none⟩ = some (.slice A n c) := hB1.cell 0; have zf := hB1.frozen 0; have zl := hB1.lt; have ht1 := Lib.hid ((((tch_of hbX.out (fun k => k = B ∨ base ≤ k)).drew).alloc _).trans2 (Tch.of_below hb1) (fun k _ h => Or.inr h)); replace hB1 := Lib.hid hB1; replace ho1 := Lib.hid ho1; clear hb1)
  all_goals (
    go_end0
    exact ⟨rfl, Or.inr (HSt.of_own hB (Nat.succ_pos _) (Blk.set' hB1.out 0 _ rfl) (by rw [← hfH.out]; exact ho1.out.asFrom ((AsFrom.refl _ _).set (p := ⟨B, 0, none⟩) hB _))), ht1.out.set (fun _ => Or.inl rfl) _⟩)
end
end Go.Proofs.Ytecaegjonhimmaa
