/-
  Op.bytes, walked: what an operation writes.
-/
import Derived.Test.YtnbfnlpepnbppaaDkO
namespace Go.Proofs.Ytnbfnlpepnbppaa
set_option linter.unusedVariables false
set_option linter.unusedSimpArgs false
open Go.RowKit Go.Shelf
attribute [local irreducible] bytesL

/-- append(row, make([]byte, n)...), a row of 512 bytes -/
theorem run_app_zeros {ty : TypeId} (g : Nat) (d : Nat → Int) (L : Nat) (hL : L ≤ 127) (w : World) (h : RowB w g d) :
    ∃ g' c w', (Builtin.append_ #[39, 3] ty #[.slice (some ⟨g, 0, none⟩) 512 512, .int .i64 L]).run Try.prog w = .ok (.slice (some ⟨g', 0, none⟩) (512 + L) c) w' ∧ SlIs w' (some ⟨g', 0, none⟩) (512 + L) (fun j => .int .u8 (if j < 512 then d j else 0)) ∧ Below w.heap.size w w' ∧ 512 + L ≤ c ∧ c ≤ maxLen := by
  obtain ⟨i0, hi0, hz0, hz1, hz2⟩ := info_parts info_u8
  have hwr : IntKind.i64.wrap (L : Int) = L := by rw [IntKind.wrap_i64]; omega
  have hw0 : IntKind.i64.wrap 0 = 0 := by rw [IntKind.wrap_i64]; omega
  have hneg : ¬ ((L : Int) < 0) := by omega
  have h48i : ¬ (281474976710656 < (L : Int)) := by omega
  rcases Nat.eq_zero_or_pos L with rfl | hp
  · refine ⟨g, 512, w, ?_, h.slis.congr (fun i hi => by rw [if_pos (by omega)]), Below.refl _ _, Nat.le_refl _, by simp [maxLen]⟩
    simp [Builtin.append_, run_underlying Try.underlying39, run_underlying Try.underlying3, sizeOf, typeInfo, zeroValue, hi0, hz0, hz1, hz2, asInt, asIntOf, storeCells, hw0]
    done
  · have hgc := grownCap_ge w (512 + L) 512 5
    have hgm := grownCap_le_maxLen w (512 + L) 512 5 (by simp [maxLen]; omega)
    have hf := run_firstCells_some (P := Try.prog) w.drew 1 512 ⟨g, 0, none⟩ 512 512 (bytesL d) (by rw [bytesL_len]) (fun j v hj => by
      have hj5 : j < 512 := by have := (List.getElem?_eq_some_iff.1 hj).1; rwa [bytesL_len] at this
      rw [bytesL_at d hj5] at hj
      cases hj
      have e : (⟨g, 0, none⟩ : Addr).add j = ⟨g, j, none⟩ := by unfold Addr.add; split <;> simp_all
      rw [e]
      exact (h.kept (Below.drew (Below.refl _ _))).cell hj5)
    have hnc : ¬ (281474976710656 < Builtin.nextslicecap (512 + L) 512) := by have := nextslicecap_le (need := 512 + L) (old := 512) (by omega); omega
    refine ⟨w.heap.size, grownCap w (512 + L) 512 5, w.drew.alloc (.cells ((bytesL d).toArray ++ Builtin.zeroCells (Value.cells (.int .u8 0)) L ++ Builtin.zeroCells (Value.cells (.int .u8 0)) (grownCap w (512 + L) 512 5 - (512 + L))) 5), ?_, ?_, bel_alloc (Below.drew (Below.refl _ _)) _, hgc, hgm⟩
    · have hL0 : L ≠ 0 := by omega
      have h63' : ¬ (9223372036854775807 < (512 : Int) + (L : Int)) := by omega
      have hroom : ¬ (512 + L ≤ 512) := by omega
      simp [Builtin.append_, run_underlying Try.underlying39, run_underlying Try.underlying3, sizeOf, typeInfo, zeroValue, hi0, hz0, hz1, hz2, asInt, asIntOf, hwr, hneg, h48i, hL0, h63', hroom, hnc, hf, Question.forced, newRow, grownCap]
      done
    · intro _
      refine ⟨w.heap.size, 0, rfl, by simp, fun j hj => ?_⟩
      have hb : Blk (w.drew.alloc (.cells ((bytesL d).toArray ++ Builtin.zeroCells (Value.cells (.int .u8 0)) L ++ Builtin.zeroCells (Value.cells (.int .u8 0)) (grownCap w (512 + L) 512 5 - (512 + L))) 5)) w.heap.size 5 ((bytesL d).toArray ++ Builtin.zeroCells (Value.cells (.int .u8 0)) L ++ Builtin.zeroCells (Value.cells (.int .u8 0)) (grownCap w (512 + L) 512 5 - (512 + L))) := Blk.new _ _ _
      have hc := Blk.cell hb j
      rw [Nat.zero_add, hc]
      show _ = some (Value.int .u8 (if j < 512 then d j else 0))
      have hsz : (bytesL d).toArray.size = 512 := by rw [List.size_toArray, bytesL_len]
      rw [Array.append_assoc, Array.getElem?_append]
      by_cases hj5 : j < 512
      · rw [if_pos (by omega), if_pos hj5, List.getElem?_toArray, bytesL_at d hj5]
      · rw [if_neg (by omega), if_neg hj5, hsz, Array.getElem?_append, if_pos (by simp [Builtin.zeroCells, Value.cells]; omega), Array.getElem?_eq_getElem (by simp [Builtin.zeroCells, Value.cells]; omega)]
        simp [Builtin.zeroCells, Value.cells, Nat.mod_one]
theorem slis_short {w : World} {A : Option Addr} {n m : Nat} {f : Nat → Value} (h : SlIs w A n f) (hm : m ≤ n) : SlIs w A m f := fun h0 => by
  obtain ⟨b, o, e, hl, hc⟩ := h (by omega)
  exact ⟨b, o, e, hl, fun j hj => hc j (by omega)⟩
/-- how many bytes an operation writes, and which -/
def OpV.len (o : OpV) : Nat := (512 + o.lg).toNat
def OpV.by_ (o : OpV) : Nat → Int := fun j => if j < 512 then fullD o.y o.mr j else 0
def opV (o : OpV) : Value := .agg #[.int .u8 o.d, .int .i64 o.at_, .int .u8 o.y, .int .u16 o.mr, .int .i8 o.lg, .slice o.A o.n o.c]
set_option maxRecDepth 8000 in
set_option maxHeartbeats 2000000 in
theorem bytes_any (o : OpV) (hm : 0 ≤ o.mr ∧ o.mr < 65536) (hg : -128 ≤ o.lg ∧ o.lg < 128) (w : World) :
    Calls Try.prog 21 #[opV o] w fun r w' => ∃ A c, r = .returned (.slice A o.len c) ∧ SlIs w' A o.len (fun j => .int .u8 (o.by_ j)) ∧ o.len ≤ c ∧ c ≤ maxLen ∧ Below w.heap.size w w' := by
  obtain ⟨od, oa, oy, om, ol, oA, oN, oC, olf, olt⟩ := o
  simp only at hm hg
  have hlen : (⟨od, oa, oy, om, ol, oA, oN, oC, olf, olt⟩ : OpV).len = (512 + ol).toNat := rfl
  have hby : ∀ j, (⟨od, oa, oy, om, ol, oA, oN, oC, olf, olt⟩ : OpV).by_ j = if j < 512 then fullD oy om j else 0 := fun _ => rfl
  rw [hlen]
  simp only [hby]
  clear hlen hby
  unfold opV
  simp only
  obtain ⟨hg1, hg2⟩ := hg
  go_enter Try.func21, Try.ntmps21
  go_upto_region 1 with fail
  refine abs_wp (fun X => Below w.heap.size w X ∧ Blk X w.heap.size 38 #[.int .u8 od, .int .i64 oa, .int .u8 oy, .int .u16 om, .int .i8 ol, .slice oA oN oC]) ⟨bel_alloc (Below.refl _ _) _, Blk.new _ _ _⟩ ?_
  rintro X ⟨hbX, gX⟩
  have y2 := gX.cell 2
  have y3 := gX.cell 3
  have y4 := gX.cell 4
  have cU := Lib.hid (full_any oy om hm X)
  have hbX' := Lib.hid hbX
  have gX' := Lib.hid gX
  clear hbX gX
  go_wp2_with fail
  refine cU.out.mono ?_
  rintro e1 w1 ⟨g1, rfl, hR, hg1', hb1⟩
  have z4 := (gX'.out.kept hb1).cell 4
  have zl := (gX'.out.kept hb1).lt
  have hB1 := Lib.hid (bel_eld hbX'.out hb1)
  have hR' := Lib.hid hR
  clear cU hb1 hR gX' hbX' y2 y3 y4
  by_cases hneg : ol < 0
  · obtain ⟨L, hL⟩ : ∃ L : Nat, 512 + ol = L := ⟨(512 + ol).toNat, by omega⟩
    have hfin : Hid (SlIs w1 (some ⟨g1, 0, none⟩) L (fun j => .int .u8 (if j < 512 then fullD oy om j else 0))) := Lib.hid ((slis_short hR'.out.slis (by omega)).congr (fun i hi => by rw [if_pos (by omega)]))
    go_wp2_with fail
    go_ret
    rw [show (512 + ol).toNat = L by omega]
    exact ⟨_, _, rfl, hfin.out, by omega, by simp [maxLen], hB1.out⟩
  · obtain ⟨L, rfl⟩ : ∃ L : Nat, ol = L := ⟨ol.toNat, by omega⟩
    obtain ⟨g2, c2, w2, hr, hs2, hb2, hc1, hc2⟩ := run_app_zeros (ty := 39) g1 _ L (by omega) w1 hR'.out
    replace hs2 := Lib.hid hs2
    have hB2 := Lib.hid (bel_eld hB1.out hb2)
    clear hb2
    go_wp2_with (at_builtin; refine Lib.wpList_append_run _ rfl _ _ _ _ rfl _ _ rfl rfl _ _ hr ?_)
    go_ret
    rw [show (512 + (L : Int)).toNat = 512 + L by omega]
    exact ⟨_, _, rfl, hs2.out, hc1, hc2, hB2.out⟩
end Go.Proofs.Ytnbfnlpepnbppaa
