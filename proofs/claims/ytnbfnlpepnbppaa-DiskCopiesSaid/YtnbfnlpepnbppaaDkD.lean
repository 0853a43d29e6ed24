/-
  Write, walked.
-/
import Derived.Test.YtnbfnlpepnbppaaDkC
namespace Go.Proofs.Ytnbfnlpepnbppaa
set_option linter.unusedVariables false
set_option linter.unusedSimpArgs false
open Go.RowKit

theorem drew_hsz (w : World) : w.drew.heap.size = w.heap.size := rfl
def updN (p : Nat → Nat) (s v : Nat) : Nat → Nat := fun t => if t = s then v else p t
def updD (p : Nat → Nat → Int) (s : Nat) (v : Nat → Int) : Nat → Nat → Int := fun t => if t = s then v else p t
theorem tch_grown {w w' : World} {row : Option Nat} (h : w.grownBy w' row) : Tch (fun k => row = some k) w w' := ⟨h.os, h.tape, h.output, h.size, fun k hk hn => h.block k hk (fun e => hn e.symm)⟩
theorem run_appT {w : World} {t e by_ k : Nat} {v z : Value} {n g c : Nat} {f : Nat → List Value} {t0 : TypeId} (ty : TypeId) (hu : Try.prog.underlying t = some (.slice e)) (hi5 : (Try.prog.info? e).map (fun i => (i.zero, i.size, i.bytes)) = some (some z, k, by_)) (hz : z.cells.size = k) (hk : 0 < k) (hby : by_ ≤ 1000)
    (ho : OwnS w 0 e k v n f) (hl : (f n).length = k) (hB : Blk w g t0 (f n).toArray) (h1 : ∀ u ∈ f n, u.oneCell' = true) (h : n ≤ 1000000) :
    ∃ v' w', (Builtin.append_ #[t, t] ty #[v, .slice (some ⟨g, 0, none⟩) 1 c]).run Try.prog w = .ok v' w' ∧ OwnS w' 0 e k v' (n + 1) f ∧ Tch (fun k => v.ownBlock = some k) w w' ∧ (v'.ownBlock = v.ownBlock ∨ v'.ownBlock = some w.heap.size) := by
  obtain ⟨i0, hi0, hz0, hz1, hz2⟩ := info_parts hi5
  have hb : (n + 1) * by_ ≤ 140737488355328 := Nat.le_trans (Nat.mul_le_mul (show n + 1 ≤ 1000001 by omega) hby) (by decide)
  obtain ⟨v', w', hr, h2, h3, _, h4⟩ := run_append_own_at (P := Try.prog) w 0 t ty e i0 _ k by_ hu hi0 hz0 hz1 hz2 hz hk v n _ ho ⟨g, 0, none⟩ 1 c (f n) (by rw [hl, Nat.one_mul]) (news_blk hB) h1 (by unfold maxLen; omega) hb (Nat.zero_le _)
  refine ⟨v', w', hr, ?_, tch_grown h3, h4⟩
  unfold OwnS
  rw [List.range_succ, List.flatMap_append]
  simpa using h2
theorem step_append_at {ops : Array Oper} {o : Oper} {a : Act} {w : World} {Q : Exit → Act → World → Prop} {K : Act → World → Prop} {E : Prop} (hgd : o.guard = none) (s y : Operand) (t : TypeId) (ho : o.op = .call { callee := .builtin .append, args := #[s, y], argTypes := #[t, t] })
    {v u v' : Value} {w' : World} (hs : a.eval s = v) (hy : a.eval y = u) (hr : (Builtin.append_ #[t, t] o.type #[v, u]).run Try.prog w = .ok v' w') (hK : K (a.put o.dst v') w') :
    if Region.wanted o (yielded ops a.tmps) = true then Oper.wp Try.prog o a w K Q else E := by
  have hw : Region.wanted o (yielded ops a.tmps) = true := by simp [Region.wanted, hgd]
  rw [if_pos hw]
  exact Lib.wp_append_run w s y _ _ ho _ _ hs hy v' w' hr hK
/-- a block loaded out of whatever bytes -/
theorem load_sl {w : World} {b o : Nat} {d : Nat → Int} (h : ∀ j, j < 512 → w.cell? ⟨b, o + j, none⟩ = some (.int .u8 (d j))) : loadV Try.prog 67 512 w (.pointer (some ⟨b, o, none⟩)) = .ok (bytV d) w := by
  rw [← run_loadAt_row Try.underlying67 rfl (show (Try.prog.info? 67).map (·.size) = some 512 by kernel_rfl) w]
  obtain ⟨i0, hi0, hz0, hz1, hz2⟩ := info_parts info_B
  have hl := run_loadCells_list (P := Try.prog) w ⟨b, o, none⟩ (bytesL d) (fun j v hj => by
    have hjm : j < 512 := by have := (List.getElem?_eq_some_iff.1 hj).1; rwa [bytesL_len] at this
    have e : (⟨b, o, none⟩ : Addr).add j = ⟨b, o + j, none⟩ := by unfold Addr.add; split <;> simp_all
    rw [e, h j hjm, ← hj, bytesL_at d hjm])
  rw [bytesL_len] at hl
  have hagg : (isAgg 67).run Try.prog w = .ok true w := by
    unfold isAgg
    rw [Sem.run_bind, run_underlying Try.underlying67 w]
    rfl
  simp [Instr.loadAt, Instr.sureAddr, loadVar, Sem.run_bind, hagg, sizeOf, typeInfo, hi0, hz1, hl, bytV]
theorem arr_B (W : World) (a : Option Addr) (c : Nat) : (Instr.arrayAt 67 (.slice a 512 c)).run Try.prog W = .ok (.pointer a) W := by
  simp [Instr.arrayAt, Sem.run_bind, run_underlying Try.underlying67]
def DS.wok (d : DS) (z : Int) (len : Nat) : Prop := d.dn = false ∧ 0 ≤ z ∧ z < d.n ∧ len = 512
instance (d : DS) (z : Int) (len : Nat) : Decidable (d.wok z len) := by unfold DS.wok; exact inferInstance
def DS.put (d : DS) (z : Nat) (e : Nat → Int) : DS := { d with m := d.m + 1, P := updN d.P d.m z, D := updD d.D d.m e, k := d.k + 1 }
def DS.write (d : DS) (z : Int) (len : Nat) (e : Nat → Int) : DS := if d.wok z len then (d.put z.toNat e).act else d
def DS.werr (d : DS) (z : Int) (len : Nat) : Int := if d.dn = true then 7 else if z < 0 ∨ (d.n : Int) ≤ z then 4 else if len ≠ 512 then 1 else if d.f = 0 then 7 else 0
/-- what a call may leave of a disk -/
def DkNx (w w' : World) (B : Nat) (G : Nat → Prop) (d : DS) : Prop := ∃ G', DkIs w' B G' d ∧ (∀ k, G k → G' k) ∧ (∀ k, G' k → G k ∨ (w.heap.size ≤ k ∧ k < w'.heap.size)) ∧ Tch G w w'
theorem DkIs.same {w : World} {B : Nat} {G : Nat → Prop} {d : DS} (h : DkIs w B G d) : DkNx w w B G d := ⟨G, h, fun _ => id, fun _ => Or.inl, Tch.refl _ _⟩
section
attribute [local go_sem] bW_is bS_is arr_B
attribute [local go_sem ↓] load_B build_W slice_W
set_option maxRecDepth 4000 in
set_option maxHeartbeats 4000000 in
theorem write_any (B : Nat) (G : Nat → Prop) (d : DS) (z : Int) (A : Option Addr) (len c : Nat) (e : Nat → Int) (hlc : len ≤ c) (hcm : c ≤ maxLen) (hn : d.n ≤ 4096) (hm : d.m ≤ 100000) (hk : d.k ≤ 100000) (hf : d.f < 9223372036854775808) (w : World) (h : DkIs w B G d) (hs : SlIs w A len (fun j => .int .u8 (e j))) :
    Calls Try.prog 12 #[.pointer (some ⟨B, 0, none⟩), .int .i64 z, .slice A len c] w fun r w' => r = .returned (.int .i64 (d.werr z len)) ∧ DkNx w w' B G (d.write z len e) := by
  obtain ⟨sv, wv, h⟩ := h
  have hb := h.box
  have hl := hb.lt
  obtain ⟨As, cs, rfl, hs1, hs2, _⟩ := h.safe.ssis (fun i => bytesL_len _)
  obtain ⟨Aw, cw, rfl, hw1, hw2, _⟩ := h.waits.ssis (fun i => wcl_len _ _)
  unfold maxLen at hcm hs2 hw2
  have c0 : w.cell? ⟨B, 0, none⟩ = some (.slice As d.n cs) := Blk.cell hb 0
  have c1 : w.cell? ⟨B, 1, none⟩ = some (.slice Aw d.m cw) := Blk.cell hb 1
  have c3 : w.cell? ⟨B, 3, none⟩ = some (.bool d.dn) := Blk.cell hb 3
  have c4 : w.cell? ⟨B, 4, none⟩ = some (.int .i64 d.k) := Blk.cell hb 4
  have f1 := Blk.frozen hb 1
  have f4 := Blk.frozen hb 4
  by_cases hok : d.wok z len
  · obtain ⟨o1, o2, o3, rfl⟩ := hok
    obtain ⟨zn, rfl⟩ : ∃ zn : Nat, z = zn := ⟨z.toNat, by omega⟩
    obtain ⟨b, o, rfl, hbl, hc⟩ := hs (by omega)
    have hLd : loadV Try.prog 67 512 w.drew (.pointer (some ⟨b, o, none⟩)) = .ok (bytV e) w.drew := load_sl (fun j hj => hc j hj)
    have hwr : DS.write d (zn : Int) 512 e = (d.put zn e).act := by unfold DS.write; rw [if_pos (show d.wok zn 512 from ⟨o1, o2, o3, rfl⟩)]; simp
    have her : DS.werr d (zn : Int) 512 = if (d.put zn e).f = 0 then 7 else 0 := by unfold DS.werr; rw [if_neg (by rw [o1]; simp), if_neg (by omega), if_neg (by omega)]; rfl
    rw [hwr, her]
    have ho1 : OwnS (World.drew (w.alloc (.cells (wcl (zn : Int) e).toArray 69))) 0 69 513 (.slice Aw d.m cw) d.m (fun i => wcl (updN d.P d.m zn i : Nat) (updD d.D d.m e i)) := (h.waits.congr (fun i hi => by unfold updN updD; rw [if_neg (by omega), if_neg (by omega)])).kept (Below.drew (bel_alloc (Below.refl _ _) _))
    obtain ⟨v', w2, happ, ho2, ht2, hob2⟩ := run_appT (g := w.heap.size) (c := 1) (t0 := 69) 63 Try.underlying63 info_W zW_cells (by omega) (by omega) ho1 (wcl_len _ _) (by unfold updN updD; rw [if_pos rfl, if_pos rfl]; exact (Blk.new _ _ _).drew) (wcl_one _ _) (by omega)
    obtain ⟨A2, c2, rfl⟩ := ho2.form
    have hsz2 := ht2.size
    simp [drew_hsz] at hsz2
    have hBw : (Value.slice Aw d.m cw).ownBlock ≠ some B := fun e => (h.gw B e).2 rfl
    have hb2 : Blk w2 B 65 #[.slice As d.n cs, .slice Aw d.m cw, .int .i64 d.f, .bool d.dn, .int .i64 d.k] := ((hb.alloc _).drew).tch ht2 hBw
    have ht2' : Tch (fun k => (Value.slice Aw d.m cw).ownBlock = some k) w w2 := (tch_of (Below.drew (bel_alloc (Below.refl _ _) _)) _).trans ht2
    have e1 : w2.cell? ⟨B, 1, none⟩ = some (.slice Aw d.m cw) := Blk.cell hb2 1
    have e4 : w2.cell? ⟨B, 4, none⟩ = some (.int .i64 d.k) := Blk.cell hb2 4
    have g1 := Blk.frozen hb2 1
    have g4 := Blk.frozen hb2 4
    have hl2 := hb2.lt
    have hD2 : Hid (DkAt ((w2.setCell ⟨B, 1, none⟩ (.slice A2 (d.m + 1) c2)).setCell ⟨B, 4, none⟩ (.int .i64 ((d.k : Int) + 1))) B (fun k => G k ∨ (w.heap.size ≤ k ∧ k < w2.heap.size)) (.slice As d.n cs) (.slice A2 (d.m + 1) c2) (d.put zn e)) := Lib.hid (by
      have htB : Tch (fun k => k = B) w2 ((w2.setCell ⟨B, 1, none⟩ (.slice A2 (d.m + 1) c2)).setCell ⟨B, 4, none⟩ (.int .i64 ((d.k : Int) + 1))) := ((Tch.refl (fun k => k = B) w2).set (p := ⟨B, 1, none⟩) (fun _ => rfl) _).set (p := ⟨B, 4, none⟩) (fun _ => rfl) _
      have hA2 : ∀ b, (Value.slice A2 (d.m + 1) c2).ownBlock = some b → (G b ∨ (w.heap.size ≤ b ∧ b < w2.heap.size)) ∧ b ≠ B ∧ (Value.slice As d.n cs).ownBlock ≠ some b := fun b eb => by
        have hlt := ho2.ltB b eb
        rcases hob2 with q | q
        · rw [q] at eb
          exact ⟨Or.inl (h.gw b eb).1, (h.gw b eb).2, fun x => h.sw b x eb⟩
        · rw [q] at eb
          have eb' : b = w.heap.size + 1 := by have := Option.some.inj eb; simp [drew_hsz] at this; omega
          subst eb'
          exact ⟨Or.inr ⟨by omega, hlt⟩, by omega, fun x => by have := h.lt _ (h.gs _ x).1; omega⟩
      refine ⟨?_, (h.safe.tch ht2' (fun b x => fun y => h.sw b x y)).tch htB (fun b x => (h.gs b x).2), ho2.tch htB (fun b x => (hA2 b x).2.1), Or.inl h.gB, fun b x => ⟨Or.inl (h.gs b x).1, (h.gs b x).2⟩, fun b x => ⟨(hA2 b x).1, (hA2 b x).2.1⟩, fun b x y => (hA2 b y).2.2 x, fun k hk => ?_⟩
      · have := Blk.set' (Blk.set' hb2 1 (.slice A2 (d.m + 1) c2) rfl) 4 (.int .i64 ((d.k : Int) + 1)) rfl
        exact this
      · refine Nat.lt_of_lt_of_le ?_ htB.size
        rcases hk with hk | hk
        · have := h.lt k hk; omega
        · exact hk.2)
    have htf : Hid (Tch G w ((w2.setCell ⟨B, 1, none⟩ (.slice A2 (d.m + 1) c2)).setCell ⟨B, 4, none⟩ (.int .i64 ((d.k : Int) + 1)))) := Lib.hid (((ht2'.mono (fun k _ x => (h.gw k x).1)).set (p := ⟨B, 1, none⟩) (fun _ => h.gB) _).set (p := ⟨B, 4, none⟩) (fun _ => h.gB) _)
    have hGB := h.gB
    have cAct := Lib.hid (fun W hD => act_any B (fun k => G k ∨ (w.heap.size ≤ k ∧ k < w2.heap.size)) (.slice As d.n cs) (.slice A2 (d.m + 1) c2) (d.put zn e) hf W hD)
    have hlt' : ((zn : Nat) : Int) < (d.n : Int) := o3
    rw [o1] at c3
    clear ho1 ho2 ht2 hob2 hb2 ht2' hBw hs hc hb h hwr her o3
    generalize d.n = dn at *
    generalize d.m = dm at *
    generalize d.k = dk at *
    go_enter Try.func12, Try.ntmps12
    go_upto_region 7 with fail
    go_region_law (go_loud (refine step_append_at rfl (.tmp 32) (.tmp 38) 63 rfl rfl rfl happ ?_))
    all_goals
      go_wp2_with fail
      refine (cAct.out _ hD2.out).mono ?_
      rintro e3 w3 ⟨rfl, hA3, ht3⟩
      have hfin : Hid (DkNx w w3 B G (d.put zn e).act) := Lib.hid ⟨_, ⟨_, _, hA3⟩, fun k => Or.inl, fun k hk => hk.imp_right (fun x => ⟨x.1, by have := ht3.size; simp at this; omega⟩), htf.out.trans2 ht3 (fun k _ x => by rw [x]; exact hGB)⟩
      clear hA3 ht3
      by_cases hz : (d.put zn e).f = 0
      · have kd : decide ((d.put zn e).f = 0) = true := decide_eq_true hz
        rw [kd]
        clear kd
        go_wp2_with fail
        go_ret
        exact ⟨rfl, hfin.out⟩
      · have kd : decide ((d.put zn e).f = 0) = false := decide_eq_false hz
        rw [kd]
        clear kd
        go_wp2_with fail
        go_ret
        exact ⟨rfl, hfin.out⟩
  · have hwr : DS.write d z len e = d := by unfold DS.write; rw [if_neg hok]
    rw [hwr]
    have hfin : Hid (DkNx w w B G d) := Lib.hid (DkIs.same ⟨_, _, h⟩)
    have hfin' : Hid (DkNx w w.drew B G d) := Lib.hid ⟨G, ⟨_, _, h.kept (Below.drew (Below.refl _ _))⟩, fun _ => id, fun _ => Or.inl, (Tch.refl _ _).drew⟩
    unfold DS.wok at hok
    clear hs hb h hwr
    cases hdn : d.dn with
    | true =>
      have her : DS.werr d z len = 7 := by unfold DS.werr; rw [if_pos hdn]
      rw [her]
      rw [hdn] at c3
      clear hok hdn her
      go_enter Try.func12, Try.ntmps12
      go_wp2_with fail
      go_ret
      exact ⟨rfl, hfin.out⟩
    | false =>
      rw [hdn] at c3
      by_cases hz : z < 0
      · have her : DS.werr d z len = 4 := by unfold DS.werr; rw [if_neg (by rw [hdn]; simp), if_pos (Or.inl hz)]
        rw [her]
        clear hok hdn her
        go_enter Try.func12, Try.ntmps12
        go_wp2_with fail
        go_ret
        exact ⟨rfl, hfin.out⟩
      · by_cases hz2 : (d.n : Int) ≤ z
        · have her : DS.werr d z len = 4 := by unfold DS.werr; rw [if_neg (by rw [hdn]; simp), if_pos (Or.inr hz2)]
          rw [her]
          clear hok hdn her
          generalize d.n = dn at *
          go_enter Try.func12, Try.ntmps12
          go_wp2_with fail
          go_ret
          exact ⟨rfl, hfin.out⟩
        · have hlen : len ≠ 512 := fun e => hok ⟨hdn, by omega, by omega, e⟩
          have her : DS.werr d z len = 1 := by unfold DS.werr; rw [if_neg (by rw [hdn]; simp), if_neg (by omega), if_pos hlen]
          rw [her]
          clear hok hdn her
          generalize d.n = dn at *
          go_enter Try.func12, Try.ntmps12
          go_wp2_with fail
          go_ret
          exact ⟨rfl, hfin.out⟩
end
end Go.Proofs.Ytnbfnlpepnbppaa
