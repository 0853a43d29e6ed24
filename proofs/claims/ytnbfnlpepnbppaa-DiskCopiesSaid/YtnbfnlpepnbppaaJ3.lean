/-
  Joined: DkUa DkW.
-/
import Derived.Test.YtnbfnlpepnbppaaDkV
-- DkUa
namespace Go.Proofs.Ytnbfnlpepnbppaa
set_option linter.unusedVariables false
set_option linter.unusedSimpArgs false
open Go.RowKit Go.Shelf
attribute [local irreducible] bytesL

section
variable (ρ : Operand → Value) (dst : Option Tmp) (x y : Operand) (t : TypeId) (pos : String) (after : Array Edge) (guard : Option (Nat × Bool)) (w : World)
theorem load_R : (execOp ρ { dst, op := Op.load 31 x, type := t, pos, after, guard }).run Try.prog w = (loadV Try.prog 31 5 w (ρ x)).andThen fun v w' => .ok (.value v) w' :=
  exec_load_row Try.underlying31 rfl (by kernel_rfl) ρ dst x t pos after guard w
theorem store_R : (execOp ρ { dst, op := Op.store 31 x y, type := t, pos, after, guard }).run Try.prog w = (storeV Try.prog 31 5 w (ρ x) (ρ y)).andThen fun _ w' => .ok .skip w' :=
  exec_store_row (by kernel_rfl) ρ dst x y t pos after guard w
end
section
variable {w w' : World} {g : Nat} {a b c d e a' b' c' d' e' : Value}
def RB (w : World) (g : Nat) (a b c d e : Value) : Prop := Blk w g 31 #[a, b, c, d, e]
theorem RB.lt (h : RB w g a b c d e) : g < w.heap.size := Blk.lt h
theorem RB.kept (h : RB w g a b c d e) (hb : Below w.heap.size w w') : RB w' g a b c d e := Blk.kept h hb
theorem RB.tch {S : Nat → Prop} (h : RB w g a b c d e) (ht : Tch S w w') (hs : ¬ S g) : RB w' g a b c d e := Blk.tch h ht hs
theorem RB.c0 (h : RB w g a b c d e) : w.cell? ⟨g, 0, none⟩ = some a := Blk.cell h 0
theorem RB.c1 (h : RB w g a b c d e) : w.cell? ⟨g, 1, none⟩ = some b := Blk.cell h 1
theorem RB.c2 (h : RB w g a b c d e) : w.cell? ⟨g, 2, none⟩ = some c := Blk.cell h 2
theorem RB.c3 (h : RB w g a b c d e) : w.cell? ⟨g, 3, none⟩ = some d := Blk.cell h 3
theorem RB.c4 (h : RB w g a b c d e) : w.cell? ⟨g, 4, none⟩ = some e := Blk.cell h 4
theorem RB.fr (h : RB w g a b c d e) (i : Nat) : w.frozen? ⟨g, i, none⟩ = false := Blk.frozen h i
theorem RB.s0 (h : RB w g a b c d e) (v : Value) : RB (w.setCell ⟨g, 0, none⟩ v) g v b c d e := Blk.set' h 0 v rfl
theorem RB.s1 (h : RB w g a b c d e) (v : Value) : RB (w.setCell ⟨g, 1, none⟩ v) g a v c d e := Blk.set' h 1 v rfl
theorem RB.s2 (h : RB w g a b c d e) (v : Value) : RB (w.setCell ⟨g, 2, none⟩ v) g a b v d e := Blk.set' h 2 v rfl
theorem RB.s3 (h : RB w g a b c d e) (v : Value) : RB (w.setCell ⟨g, 3, none⟩ v) g a b c v e := Blk.set' h 3 v rfl
theorem RB.s4 (h : RB w g a b c d e) (v : Value) : RB (w.setCell ⟨g, 4, none⟩ v) g a b c d v := Blk.set' h 4 v rfl
theorem RB.ld (h : RB w g a b c d e) : loadV Try.prog 31 5 w (.pointer (some ⟨g, 0, none⟩)) = .ok (.agg #[a, b, c, d, e]) w :=
  load_at (P := Try.prog) (ty := 31) (k := 5) (cap := 1) (f := fun _ => [a, b, c, d, e]) h (fun _ => rfl) (i := 0) (by omega)
theorem RB.st (h : RB w g a b c d e) (h1 : a'.oneCell' = true) (h2 : b'.oneCell' = true) (h3 : c'.oneCell' = true) (h4 : d'.oneCell' = true) (h5 : e'.oneCell' = true) :
    storeV Try.prog 31 5 w (.pointer (some ⟨g, 0, none⟩)) (.agg #[a', b', c', d', e']) = .ok () (w.setRow g #[a', b', c', d', e']) ∧ RB (w.setRow g #[a', b', c', d', e']) g a' b' c' d' e' ∧ Tch (fun k => k = g) w (w.setRow g #[a', b', c', d', e']) := by
  have hs := store_at (P := Try.prog) (ty := 31) (k := 5) (cap := 1) (f := fun _ => [a, b, c, d, e]) h (fun _ => rfl) (i := 0) (by omega) (l := [a', b', c', d', e']) rfl (fun u hu => by
    simp only [List.mem_cons, List.not_mem_nil, or_false] at hu
    rcases hu with rfl | rfl | rfl | rfl | rfl <;> assumption)
  exact ⟨hs, setRow_heap w g _ _ _ _ h, (Tch.refl (fun k => k = g) w).setRow (fun _ => rfl) _⟩
end
end Go.Proofs.Ytnbfnlpepnbppaa
-- DkW
namespace Go.Proofs.Ytnbfnlpepnbppaa
set_option linter.unusedVariables false
set_option linter.unusedSimpArgs false
open Go.RowKit Go.Shelf
attribute [local irreducible] bytesL

theorem info_St : (Try.prog.info? 9).map (fun i => (i.zero, i.size, i.bytes)) = some (some (.string { data := #[] }), 1, 16) := by kernel_rfl
theorem info_Rw : (Try.prog.info? 71).map (fun i => (i.zero, i.size, i.bytes)) = some (some (.agg #[.int .i64 0, .string { data := #[] }]), 2, 24) := by kernel_rfl
/-- append([]T{}, xs...) -/
theorem run_app_all {W : World} {t e by_ k g : Nat} {z : Value} {m c : Nat} {A : Option Addr} {f : Nat → List Value} (ty : TypeId) (hu : Try.prog.underlying t = some (.slice e)) (hi5 : (Try.prog.info? e).map (fun i => (i.zero, i.size, i.bytes)) = some (some z, k, by_)) (hz : z.cells.size = k) (hk : 0 < k) (hby : by_ ≤ 1000)
    (hB : Blk W g e #[]) (hf : ∀ i, (f i).length = k) (h1 : ∀ i, ∀ u ∈ f i, u.oneCell' = true) (hs : SsIs W A m k f) (h : m ≤ 1000000) :
    ∃ v' w', (Builtin.append_ #[t, t] ty #[.slice (some ⟨g, 0, none⟩) 0 0, .slice A m c]).run Try.prog W = .ok v' w' ∧ OwnS w' 0 e k v' m f ∧ Tch (fun k => k = g) W w' ∧ (v'.ownBlock = some g ∨ v'.ownBlock = some W.heap.size) := by
  have ho : OwnS W 0 e k (.slice (some ⟨g, 0, none⟩) 0 0) 0 f := OwnS.of_row (F := f) (cap := 0) hB hf (fun i hi => by omega) (Nat.zero_le _) (Nat.le_refl _) (Nat.zero_le _)
  rcases Nat.eq_zero_or_pos m with rfl | hm
  · exact ⟨_, W, run_append_none W t ty e hi5 hu _ A c, ho, Tch.refl _ _, Or.inl rfl⟩
  · obtain ⟨b, o, rfl, hl, hc⟩ := hs hm
    obtain ⟨i0, hi0, hz0, hz1, hz2⟩ := info_parts hi5
    have hb : (0 + m) * by_ ≤ 140737488355328 := Nat.le_trans (Nat.mul_le_mul (show 0 + m ≤ 1000001 by omega) hby) (by decide)
    have hfl : ((List.range m).flatMap f).length = m * k := fm_len hf m
    obtain ⟨v', w', hr, h2, h3, _, h4⟩ := run_append_own_at (P := Try.prog) W 0 t ty e i0 _ k by_ hu hi0 hz0 hz1 hz2 hz hk _ 0 _ ho ⟨b, o, none⟩ m c ((List.range m).flatMap f) hfl (news_ss hf hc) (fun u hu => by
      obtain ⟨i, _, hi⟩ := List.mem_flatMap.1 hu
      exact h1 i u hi) (by unfold maxLen; omega) hb (Nat.zero_le _)
    refine ⟨v', w', hr, ?_, (tch_grown h3).mono (fun k _ x => (Option.some.inj x).symm), h4⟩
    unfold OwnS
    rw [Nat.zero_add] at h2
    simpa using h2
/-- append(xs, x): the element lies in a row of one -/
theorem run_app_one {w : World} {t e by_ k : Nat} {v z : Value} {n g c : Nat} {f : Nat → List Value} {t0 : TypeId} (ty : TypeId) (hu : Try.prog.underlying t = some (.slice e)) (hi5 : (Try.prog.info? e).map (fun i => (i.zero, i.size, i.bytes)) = some (some z, k, by_)) (hz : z.cells.size = k) (hk : 0 < k) (hby : by_ ≤ 1000)
    (ho : OwnS w 0 e k v n f) (hl : (f n).length = k) (hB : Blk w g t0 (f n).toArray) (h1 : ∀ u ∈ f n, u.oneCell' = true) (h : n ≤ 1000000) :
    ∃ v' w', (Builtin.append_ #[t, t] ty #[v, .slice (some ⟨g, 0, none⟩) 1 c]).run Try.prog w = .ok v' w' ∧ OwnS w' 0 e k v' (n + 1) f ∧ Tch (fun k => v.ownBlock = some k) w w' ∧ (v'.ownBlock = v.ownBlock ∨ v'.ownBlock = some w.heap.size) :=
  run_appT ty hu hi5 hz hk hby ho hl hB h1 h
theorem DS.write_no {d : DS} {z : Int} {len : Nat} {e : Nat → Int} (h : ¬ d.wok z len) : d.write z len e = d := by unfold DS.write; rw [if_neg h]
set_option maxRecDepth 8000 in
set_option maxHeartbeats 4000000 in
theorem rwrite_bad (sv wv : Value) (d : DS) (z : Int) (len : Nat) (e : Nat → Int) (hn : d.n ≤ 4096) (hm : d.m ≤ 100000) (hk : d.k ≤ 100000) (hf : -10 < d.f ∧ d.f < 9223372036854775808) (w : World) (h : RfAt w sv wv d) (hok : ¬ d.wok z len) :
    Calls Try.prog 13 #[rfv sv wv d, .int .i64 z, .string (strF e len)] w fun r w' => ∃ wv', r = .returned (.tuple #[rfv sv wv' (d.write z len e), .int .i64 (d.werr z len)]) ∧ RfAt w' sv wv' (d.write z len e) ∧ Below w.heap.size w w' ∧ ∀ b, wv'.ownBlock = some b → wv.ownBlock = some b ∨ w.heap.size ≤ b := by
  have h0 := h
  obtain ⟨As, cs, rfl, hs1, hs2, hss⟩ := h.safe.ssis (fun _ => rfl)
  obtain ⟨Aw, cw, rfl, hw1, hw2, hww⟩ := h.waits.ssis (fun _ => rfl)
  unfold maxLen at hs2 hw2
  have hsz : (strF e len).size = len := strF_size e len
  clear hss
  rw [DS.write_no hok]
  have key : (d.dn = true ∧ d.werr z len = 7) ∨ (d.dn = false ∧ z < 0 ∧ d.werr z len = 4) ∨ (d.dn = false ∧ ¬ z < 0 ∧ (d.n : Int) ≤ z ∧ d.werr z len = 4) ∨ (d.dn = false ∧ ¬ z < 0 ∧ ¬ (d.n : Int) ≤ z ∧ len ≠ 512 ∧ d.werr z len = 1) := by
    unfold DS.werr
    cases hd : d.dn with
    | true => exact Or.inl ⟨rfl, by simp⟩
    | false =>
      by_cases h1 : z < 0
      · exact Or.inr (Or.inl ⟨rfl, h1, by rw [if_neg (by simp), if_pos (Or.inl h1)]⟩)
      · by_cases h2 : (d.n : Int) ≤ z
        · exact Or.inr (Or.inr (Or.inl ⟨rfl, h1, h2, by rw [if_neg (by simp), if_pos (Or.inr h2)]⟩))
        · have h3 : len ≠ 512 := fun x => hok ⟨hd, by omega, by omega, x⟩
          exact Or.inr (Or.inr (Or.inr ⟨rfl, h1, h2, h3, by rw [if_neg (by simp), if_neg (by omega), if_pos h3]⟩))
  have hfin : Hid (∀ (w' : World), Below w.heap.size w w' → RfAt w' (.slice As d.n cs) (.slice Aw d.m cw) d) := Lib.hid (fun w' hb => h0.kept hb)
  unfold rfv
  clear h0 h hok hww
  rcases key with ⟨hd, he⟩ | ⟨hd, k1, he⟩ | ⟨hd, k1, k2, he⟩ | ⟨hd, k1, k2, k3, he⟩
  · rw [he, hd]
    clear he hd
    generalize strF e len = S at *
    generalize hkk : (d.k : Int) = k at *
    generalize hff : d.f = f at *
    go_enter Try.func13, Try.ntmps13
    clear hkk hff
    go_wp2_with fail
    exact bodyPost_ret (v := .tuple #[.agg #[.slice As d.n cs, .slice Aw d.m cw, .int .i64 f, .bool true, .int .i64 k], .int .i64 7]) (by simp [results, Try.results13, go_sem]) rfl ⟨_, rfl, hfin.out _ (by (repeat (first | exact Below.refl _ _ | assumption | refine below_drewN ?_ _ | refine bel_grow ?_ _ | refine Below.drew ?_ | refine bel_alloc ?_ _ | refine bel_set ?_ (by first | exact Nat.le_refl _ | (simp; done) | (simp; omega) | omega) _ | refine bel_trans ?_ (by assumption)))), by (repeat (first | exact Below.refl _ _ | assumption | refine below_drewN ?_ _ | refine bel_grow ?_ _ | refine Below.drew ?_ | refine bel_alloc ?_ _ | refine bel_set ?_ (by first | exact Nat.le_refl _ | (simp; done) | (simp; omega) | omega) _ | refine bel_trans ?_ (by assumption))), fun b => Or.inl⟩
  · rw [he, hd]
    clear he hd
    generalize strF e len = S at *
    generalize hkk : (d.k : Int) = k at *
    generalize hff : d.f = f at *
    go_enter Try.func13, Try.ntmps13
    clear hkk hff
    go_wp2_with fail
    exact bodyPost_ret (v := .tuple #[.agg #[.slice As d.n cs, .slice Aw d.m cw, .int .i64 f, .bool false, .int .i64 k], .int .i64 4]) (by simp [results, Try.results13, go_sem]) rfl ⟨_, rfl, hfin.out _ (by (repeat (first | exact Below.refl _ _ | assumption | refine below_drewN ?_ _ | refine bel_grow ?_ _ | refine Below.drew ?_ | refine bel_alloc ?_ _ | refine bel_set ?_ (by first | exact Nat.le_refl _ | (simp; done) | (simp; omega) | omega) _ | refine bel_trans ?_ (by assumption)))), by (repeat (first | exact Below.refl _ _ | assumption | refine below_drewN ?_ _ | refine bel_grow ?_ _ | refine Below.drew ?_ | refine bel_alloc ?_ _ | refine bel_set ?_ (by first | exact Nat.le_refl _ | (simp; done) | (simp; omega) | omega) _ | refine bel_trans ?_ (by assumption))), fun b => Or.inl⟩
  · rw [he, hd]
    clear he hd
    generalize strF e len = S at *
    generalize hkk : (d.k : Int) = k at *
    generalize hff : d.f = f at *
    go_enter Try.func13, Try.ntmps13
    clear hkk hff
    go_wp2_with fail
    exact bodyPost_ret (v := .tuple #[.agg #[.slice As d.n cs, .slice Aw d.m cw, .int .i64 f, .bool false, .int .i64 k], .int .i64 4]) (by simp [results, Try.results13, go_sem]) rfl ⟨_, rfl, hfin.out _ (by (repeat (first | exact Below.refl _ _ | assumption | refine below_drewN ?_ _ | refine bel_grow ?_ _ | refine Below.drew ?_ | refine bel_alloc ?_ _ | refine bel_set ?_ (by first | exact Nat.le_refl _ | (simp; done) | (simp; omega) | omega) _ | refine bel_trans ?_ (by assumption)))), by (repeat (first | exact Below.refl _ _ | assumption | refine below_drewN ?_ _ | refine bel_grow ?_ _ | refine Below.drew ?_ | refine bel_alloc ?_ _ | refine bel_set ?_ (by first | exact Nat.le_refl _ | (simp; done) | (simp; omega) | omega) _ | refine bel_trans ?_ (by assumption))), fun b => Or.inl⟩
  · rw [he, hd]
    clear he hd
    have k4 : ¬ ((len : Int) = 512) := by omega
    generalize strF e len = S at *
    generalize hkk : (d.k : Int) = k at *
    generalize hff : d.f = f at *
    go_enter Try.func13, Try.ntmps13
    clear hkk hff
    go_wp2_with fail
    exact bodyPost_ret (v := .tuple #[.agg #[.slice As d.n cs, .slice Aw d.m cw, .int .i64 f, .bool false, .int .i64 k], .int .i64 1]) (by simp [results, Try.results13, go_sem]) rfl ⟨_, rfl, hfin.out _ (by (repeat (first | exact Below.refl _ _ | assumption | refine below_drewN ?_ _ | refine bel_grow ?_ _ | refine Below.drew ?_ | refine bel_alloc ?_ _ | refine bel_set ?_ (by first | exact Nat.le_refl _ | (simp; done) | (simp; omega) | omega) _ | refine bel_trans ?_ (by assumption)))), by (repeat (first | exact Below.refl _ _ | assumption | refine below_drewN ?_ _ | refine bel_grow ?_ _ | refine Below.drew ?_ | refine bel_alloc ?_ _ | refine bel_set ?_ (by first | exact Nat.le_refl _ | (simp; done) | (simp; omega) | omega) _ | refine bel_trans ?_ (by assumption))), fun b => Or.inl⟩
section
attribute [local go_sem ↓] load_R store_R
set_option maxRecDepth 8000 in
set_option maxHeartbeats 4000000 in
theorem rwrite_good (sv wv : Value) (d : DS) (z : Int) (len : Nat) (e : Nat → Int) (hn : d.n ≤ 4096) (hm : d.m ≤ 100000) (hk : d.k ≤ 100000) (hf : -10 < d.f ∧ d.f < 9223372036854775808) (w : World) (h : RfAt w sv wv d) (hok : d.wok z len) :
    Calls Try.prog 13 #[rfv sv wv d, .int .i64 z, .string (strF e len)] w fun r w' => ∃ wv', r = .returned (.tuple #[rfv sv wv' (d.write z len e), .int .i64 (d.werr z len)]) ∧ RfAt w' sv wv' (d.write z len e) ∧ Below w.heap.size w w' ∧ ∀ b, wv'.ownBlock = some b → wv.ownBlock = some b ∨ w.heap.size ≤ b := by
  have h0 := h
  obtain ⟨As, cs, rfl, hs1, hs2, hss⟩ := h.safe.ssis (fun _ => rfl)
  obtain ⟨Aw, cw, rfl, hw1, hw2, hww⟩ := h.waits.ssis (fun _ => rfl)
  unfold maxLen at hs2 hw2
  have hsz : (strF e len).size = len := strF_size e len
  clear hss
  obtain ⟨o1, o2, o3, rfl⟩ := hok
  obtain ⟨zn, rfl⟩ : ∃ zn : Nat, z = zn := ⟨z.toNat, by omega⟩
  have hwr : DS.write d (zn : Int) 512 e = (d.put zn e).act := by unfold DS.write; rw [if_pos (show d.wok zn 512 from ⟨o1, o2, o3, rfl⟩)]; simp
  have her : DS.werr d (zn : Int) 512 = if d.f = 0 then 7 else 0 := by unfold DS.werr; rw [if_neg (by rw [o1]; simp), if_neg (by omega), if_neg (by omega)]
  have hdn : (d.put zn e).act.dn = decide (d.f = 0) := by
    unfold DS.act
    have hpf : (d.put zn e).f = d.f := rfl
    by_cases h0 : d.f = 0
    · rw [if_pos (by rw [hpf]; exact h0)]; exact (decide_eq_true h0).symm
    · rw [if_neg (by rw [hpf]; exact h0)]
      split <;> exact o1.trans (decide_eq_false h0).symm
  obtain ⟨F1, F2, F3, F4, F5⟩ := (d.put zn e).act_fields
  have cA : ∀ W (A4 : Option Addr) (c4 : Nat), Calls Try.prog 26 #[.agg #[.slice As d.n cs, .slice A4 (d.m + 1) c4, .int .i64 d.f, .bool false, .int .i64 ((d.k : Int) + 1)]] W fun r w' => r = .returned (.agg #[.slice As d.n cs, .slice A4 (d.m + 1) c4, .int .i64 (d.put zn e).act.f, .bool (d.put zn e).act.dn, .int .i64 (d.put zn e).act.k]) ∧ Below W.heap.size W w' := fun W A4 c4 => by
    have := ract_any As A4 d.n (d.m + 1) cs c4 (d.put zn e) ⟨hf.1, hf.2⟩ W
    unfold rfv at this
    rw [show (d.put zn e).dn = false from o1] at this
    exact this
  rw [hwr, her]
  have hsb : ∀ b, (Value.slice As d.n cs).ownBlock = some b → b < w.heap.size := h0.safe.ltB
  have hRf : Hid (∀ (W : World) (A4 : Option Addr) (c4 : Nat), OwnS W 0 9 1 (.slice As d.n cs) d.n (fun i => [.string (strF (d.S i) 512)]) → OwnS W 0 71 2 (.slice A4 (d.m + 1) c4) (d.m + 1) (fun i => [.int .i64 (updN d.P d.m zn i), .string (strF (updD d.D d.m e i) 512)]) → RfAt W (.slice As d.n cs) (.slice A4 (d.m + 1) c4) (d.put zn e).act) := Lib.hid (fun W A4 c4 ho1 ho2 => RfAt.same (d := d.put zn e) ⟨ho1, ho2⟩ F1 F2 F3 F4 F5)
  unfold rfv
  generalize (d.put zn e).act = d5 at *
  replace cA := Lib.hid cA
  replace hdn := Lib.hid hdn
  clear F1 F2 F3 F4 F5 hwr her
  rw [o1]
  go_enter Try.func13, Try.ntmps13
  go_upto_region 7 with fail
  refine abs_wp (fun X => Below w.heap.size w X ∧ RB X w.heap.size (.slice As d.n cs) (.slice Aw d.m cw) (.int .i64 d.f) (.bool false) (.int .i64 d.k) ∧ RB X (w.heap.size + 1) (.slice none 0 0) (.slice none 0 0) (.int .i64 0) (.bool false) (.int .i64 0)) ⟨by (repeat (first | exact Below.refl _ _ | assumption | refine below_drewN ?_ _ | refine bel_grow ?_ _ | refine Below.drew ?_ | refine bel_alloc ?_ _ | refine bel_set ?_ (by first | exact Nat.le_refl _ | (simp; done) | (simp; omega) | omega) _ | refine bel_trans ?_ (by assumption))), (Blk.new _ _ _).alloc _, Blk.new' (by simp)⟩ ?_
  rintro X ⟨hbX, gX, rX⟩
  obtain ⟨g, hg⟩ : ∃ g, g = w.heap.size := ⟨_, rfl⟩
  rw [← hg] at gX rX
  rw [← hg]
  obtain ⟨v2, w2, happ1, ho2, ht2, hob2⟩ := run_app_all (W := X.alloc (.cells #[] 71)) (g := X.heap.size) (c := cw) 29 Try.underlying29 info_Rw rfl (by omega) (by omega) (Blk.new _ _ _) (fun _ => rfl) (fun i u hu => by
    rcases List.mem_cons.1 hu with h | h
    · subst h; rfl
    · rw [List.mem_singleton] at h; subst h; rfl) ((hww.below hbX).below (bel_alloc (Below.refl _ _) _)) (by omega)
  obtain ⟨A2, c2, rfl⟩ := ho2.form
  have ho3 : OwnS (w2.alloc (.cells #[.int .i64 zn, .string (strF e 512)] 71)) 0 71 2 (.slice A2 d.m c2) d.m (fun i => [.int .i64 (updN d.P d.m zn i), .string (strF (updD d.D d.m e i) 512)]) := (ho2.congr (fun i hi => by unfold updN updD; rw [if_neg (by omega), if_neg (by omega)])).kept (bel_alloc (Below.refl _ _) _)
  obtain ⟨v4, w4, happ2, ho4, ht4, hob4⟩ := run_app_one (g := w2.heap.size) (c := 1) (t0 := 71) 29 Try.underlying29 info_Rw rfl (by omega) (by omega) ho3 rfl (by unfold updN updD; rw [if_pos rfl, if_pos rfl]; exact Blk.new _ _ _) (fun u hu => by
    rcases List.mem_cons.1 hu with h | h
    · subst h; rfl
    · rw [List.mem_singleton] at h; subst h; rfl) (by omega)
  obtain ⟨A4, c4, rfl⟩ := ho4.form
  have hsX := hbX.size
  have hs2 := ht2.size
  have hs4 := ht4.size
  simp at hs2 hs4
  have hX2 : Below X.heap.size X w2 := (bel_alloc (Below.refl _ _) _).trans (ht2.below (by simp) (fun k h1 h2 => by subst h2; exact absurd h1 (Nat.lt_irrefl _)))
  have hA2 : ∀ b, (Value.slice A2 d.m c2).ownBlock = some b → X.heap.size ≤ b := fun b hb => by
    rcases hob2 with q | q
    · rw [q] at hb; cases hb; exact Nat.le_refl _
    · rw [q] at hb; cases hb; simp
  have hX4 : Below X.heap.size X w4 := (hX2.trans ((bel_alloc (Below.refl _ _) _).mono hX2.size)).trans (ht4.below (by simp; omega) (fun k h1 h2 => absurd (hA2 k h2) (Nat.not_le.2 h1)))
  have hA4 : ∀ b, (Value.slice A4 (d.m + 1) c4).ownBlock = some b → X.heap.size ≤ b := fun b hb => by
    rcases hob4 with q | q
    · rw [q] at hb; exact hA2 b hb
    · rw [q] at hb; cases hb; simp; omega
  have x1 := gX.c1
  have g4 := gX.kept hX4
  have y1 := g4.c1
  have y4 := g4.c4
  have f1 := g4.fr 1
  have f4 := g4.fr 4
  have lX := gX.lt
  have rlX := rX.lt
  have hfin := Lib.hid (fun (W : World) (ht : Tch (fun k => k = g ∨ k = g + 1) w4 W) => hRf.out W A4 c4 ((h0.safe.kept (bel_eld hbX hX4)).tch ht (fun b hb hq => by have := hsb b hb; omega)) (ho4.tch ht (fun b hb hq => by have := hA4 b hb; omega)))
  have hown : Hid (∀ b, (Value.slice A4 (d.m + 1) c4).ownBlock = some b → (Value.slice Aw d.m cw).ownBlock = some b ∨ w.heap.size ≤ b) := Lib.hid (fun b hb => Or.inr (by have := hA4 b hb; omega))
  have hgw : Hid (w.heap.size ≤ g) := Lib.hid (by omega)
  have hbw4 := Lib.hid (hbX.trans (hX4.mono hbX.size))
  have gX4 := Lib.hid g4
  have rX4 := Lib.hid (rX.kept hX4)
  clear ho2 ht2 hob2 ho3 ht4 hob4 ho4 hA2 hX2 hww h h0 hg hbX gX rX hX4 hRf hsb hA4 hs4 hsX g4 rlX
  go_upto_region 9 with (at_builtin; first | refine wpList_append_at _ rfl _ _ 29 rfl _ _ rfl rfl happ1 ?_ | refine wpList_append_at _ rfl _ _ 29 rfl _ _ rfl rfl happ2 ?_)
  refine abs_wp (fun U => Tch (fun k => k = g) w4 U ∧ RB U g (.slice As d.n cs) (.slice A4 (d.m + 1) c4) (.int .i64 d.f) (.bool false) (.int .i64 ((d.k : Int) + 1))) ⟨((Tch.refl (fun k => k = g) w4).set (p := ⟨g, 1, none⟩) (fun _ => rfl) (.slice A4 (d.m + 1) c4)).set (p := ⟨g, 4, none⟩) (fun _ => rfl) (.int .i64 ((d.k : Int) + 1)), (gX4.out.s1 _).s4 _⟩ ?_
  rintro U ⟨tU, gU⟩
  clear x1 y1 y4 f1 f4 lX happ1 happ2 hs2 gX4
  have lU := gU.ld
  replace gU := Lib.hid gU
  replace tU := Lib.hid tU
  go_wp2_with fail
  refine (cA.out _ _ _).mono ?_
  rintro e5 w5 ⟨rfl, hb5⟩
  obtain ⟨st5, g5, t5⟩ := (gU.out.kept hb5).st (a' := .slice As d.n cs) (b' := .slice A4 (d.m + 1) c4) (c' := .int .i64 d5.f) (d' := .bool d5.dn) (e' := .int .i64 d5.k) rfl rfl rfl rfl rfl
  have hY := (tU.out.bel hb5).trans t5
  clear lU gU tU hb5 cA t5
  go_upto_region 10 with fail
  refine abs_wp (fun Y => Tch (fun k => k = g) w4 Y ∧ RB Y g (.slice As d.n cs) (.slice A4 (d.m + 1) c4) (.int .i64 d5.f) (.bool d5.dn) (.int .i64 d5.k)) ⟨hY, g5⟩ ?_
  clear hY g5 st5
  rintro Y ⟨tY, gY⟩
  have a3 := gY.c3
  have lY := gY.ld
  obtain ⟨stY, rY, tY2⟩ := (rX4.out.tch tY (by omega)).st (a' := .slice As d.n cs) (b' := .slice A4 (d.m + 1) c4) (c' := .int .i64 d5.f) (d' := .bool d5.dn) (e' := .int .i64 d5.k) rfl rfl rfl rfl rfl
  have hYg := Lib.hid ((tY.mono (S' := fun k => k = g ∨ k = g + 1) (fun k _ x => Or.inl x)).trans (tY2.mono (S' := fun k => k = g ∨ k = g + 1) (fun k _ x => Or.inr x)))
  have q0 := rY.c0
  have q1 := rY.c1
  have q2 := rY.c2
  have q3 := rY.c3
  have q4 := rY.c4
  clear tY gY rY rX4 tY2
  have hbl := Lib.hid (hbw4.out.trans (hYg.out.below hbw4.out.size (fun k h1 h2 => by have := hgw.out; omega)))
  by_cases h0 : d.f = 0
  · have hdn' := hdn.out
    rw [decide_eq_true h0] at hdn'
    rw [hdn'] at a3 lY stY hYg hbl q0 q1 q2 q3 q4
    go_wp2_with fail
    exact bodyPost_ret (v := .tuple #[.agg #[.slice As d.n cs, .slice A4 (d.m + 1) c4, .int .i64 d5.f, .bool true, .int .i64 d5.k], .int .i64 7]) (by simp [results, Try.results13, go_sem, q0, q1, q2, q3, q4]) rfl ⟨_, rfl, hfin.out _ hYg.out, hbl.out, hown.out⟩
  · have hdn' := hdn.out
    rw [decide_eq_false h0] at hdn'
    rw [hdn'] at a3 lY stY hYg hbl q0 q1 q2 q3 q4
    go_wp2_with fail
    exact bodyPost_ret (v := .tuple #[.agg #[.slice As d.n cs, .slice A4 (d.m + 1) c4, .int .i64 d5.f, .bool false, .int .i64 d5.k], .int .i64 0]) (by simp [results, Try.results13, go_sem, q0, q1, q2, q3, q4]) rfl ⟨_, rfl, hfin.out _ hYg.out, hbl.out, hown.out⟩
end
theorem rwrite_any (sv wv : Value) (d : DS) (z : Int) (len : Nat) (e : Nat → Int) (hn : d.n ≤ 4096) (hm : d.m ≤ 100000) (hk : d.k ≤ 100000) (hf : -10 < d.f ∧ d.f < 9223372036854775808) (w : World) (h : RfAt w sv wv d) :
    Calls Try.prog 13 #[rfv sv wv d, .int .i64 z, .string (strF e len)] w fun r w' => ∃ wv', r = .returned (.tuple #[rfv sv wv' (d.write z len e), .int .i64 (d.werr z len)]) ∧ RfAt w' sv wv' (d.write z len e) ∧ Below w.heap.size w w' ∧ ∀ b, wv'.ownBlock = some b → wv.ownBlock = some b ∨ w.heap.size ≤ b :=
  if hok : d.wok z len then rwrite_good sv wv d z len e hn hm hk hf w h hok else rwrite_bad sv wv d z len e hn hm hk hf w h hok
end Go.Proofs.Ytnbfnlpepnbppaa
