/-
  Crash, walked.
-/
import Derived.Test.YtnbfnlpepnbppaaDkE
import Derived.Laws.CopyRow
namespace Go.Proofs.Ytnbfnlpepnbppaa
set_option linter.unusedVariables false
set_option linter.unusedSimpArgs false
open Go.RowKit

def clampN (z : Int) : Nat := (min (max z 0) 512).toNat
theorem clampN_is (z : Int) : (if (512 : Int) < (if z < 0 then 0 else z) then (512 : Int) else (if z < 0 then 0 else z)) = (clampN z : Int) := by
  unfold clampN
  split <;> split <;> omega
theorem clampN_le (z : Int) : clampN z ≤ 512 := by unfold clampN; omega
/-- bytes from a on up to b are those of e -/
def mixD (d e : Nat → Int) (a b : Nat) : Nat → Int := fun x => if a ≤ x ∧ x < b then e x else d x
/-- the bytes of block b behind the first m writes, each in part -/
def crD (S : Nat → Nat → Int) (P : Nat → Nat) (D : Nat → Nat → Int) (lf lt : Nat → Int) (nl : Nat) : Nat → Nat → Nat → Int
  | 0, b => S b
  | i + 1, b => if i < nl ∧ P i = b then mixD (crD S P D lf lt nl i b) (D i) (clampN (lf i)) (clampN (lt i)) else crD S P D lf lt nl i b
theorem crD_far {S : Nat → Nat → Int} {P : Nat → Nat} {D : Nat → Nat → Int} {lf lt : Nat → Int} {nl b : Nat} : ∀ {m}, nl ≤ m → crD S P D lf lt nl m b = crD S P D lf lt nl nl b := by
  intro m h
  induction m with
  | zero =>
    obtain rfl : nl = 0 := by omega
    rfl
  | succ m ih =>
    by_cases e : nl = m + 1
    · rw [e]
    · show (if m < nl ∧ P m = b then _ else _) = _
      rw [if_neg (by omega)]
      exact ih (by omega)
def DS.crash (d : DS) (lf lt : Nat → Int) (nl : Nat) : DS := { d with S := fun b => crD d.S d.P d.D lf lt nl d.m b, m := 0, f := -1, dn := false }
theorem run_copy_row1 {P : Program} (w : World) (dT sT ty elem : TypeId) (g o dLen dCap : Nat) (a : Addr) (sLen sCap : Nat) (cur : Array Value) (t : TypeId) (cs : List Value)
    (hu : P.underlying dT = some (.slice elem)) (hs : (P.info? elem).map (·.size) = some 1)
    (hg : w.heap[g]? = some (.cells cur t (0, 0))) (hn : cs.length = Nat.min sLen dLen)
    (hsrc : ∀ j v, cs[j]? = some v → w.cell? (a.add j) = some v) (hfit : o + cs.length ≤ cur.size) (h1 : ∀ v ∈ cs, v.oneCell' = true) :
    (Builtin.copy_ #[dT, sT] ty #[.slice (some ⟨g, o, none⟩) dLen dCap, .slice (some a) sLen sCap]).run P w =
      .ok (.int .i64 (cs.length : Nat)) (w.setRow g (cur.toList.take o ++ cs ++ cur.toList.drop (o + cs.length)).toArray) := run_copy_row P w dT sT ty elem g o dLen dCap a sLen sCap cur t cs hu hs hg hn hsrc hfit h1
theorem len_B : Try.prog.arrayLen 67 = 512 := by kernel_rfl
theorem elem_B : Try.prog.elem 67 = 5 := by kernel_rfl
theorem under_B : Try.prog.underlying 67 = some (.array (Try.prog.arrayLen 67) (Try.prog.elem 67)) := by rw [len_B, elem_B]; exact Try.underlying67
theorem slice_Blk (g o x y : Nat) (h1 : x < y) (h2 : y ≤ 512) (W : World) : (Instr.sliceAt 67 (.pointer (some ⟨g, o, none⟩)) (some (.int .i64 x)) (some (.int .i64 y)) none).run Try.prog W = .ok (.slice (some ⟨g, o + x, none⟩) (y - x) (512 - x)) W := by
  rw [run_sliceAt_array_lh W _ _ under_B .i64 .i64 x y (by omega) (by omega) (by rw [len_B]; omega)]
  obtain ⟨i, hi, hi1⟩ := Option.map_eq_some_iff.1 (show (Try.prog.info? 5).map (·.size) = some 1 by kernel_rfl)
  rw [elem_B, len_B]
  have hne : ¬ 512 = x := by omega
  simp [sizeOf, typeInfo, hi, hi1, slicedAt, hne, Addr.add]
theorem info_u8s : (Try.prog.info? 5).map (·.size) = some 1 := by kernel_rfl
/-- a part of one struct of a row -/
theorem rowC_part {f : Nat → List Value} {k n i o : Nat} {cs : List Value} (hf : ∀ i, (f i).length = k) (hi : i < n) (ho : o + cs.length ≤ k) :
    (rowC n f).take (i * k + o) ++ cs ++ (rowC n f).drop (i * k + o + cs.length) = rowC n (updL f i ((f i).take o ++ cs ++ (f i).drop (o + cs.length))) := by
  have hl : ((f i).take o ++ cs ++ (f i).drop (o + cs.length)).length = k := by
    rw [List.length_append, List.length_append, List.length_take, List.length_drop, hf]; omega
  rw [← rowC_upd hf hl hi, rowC_split (f := f) hi]
  have hlen : (rowC i f).length = i * k := rowC_len hf i
  generalize hR : (List.range (n - i - 1)).flatMap (fun j => f (i + 1 + j)) = R
  have hfi := hf i
  generalize f i = x at *
  generalize rowC i f = A at *
  have t1 : (A ++ x ++ R).take (i * k + o) = A ++ x.take o := by
    rw [List.append_assoc, List.take_append, List.take_of_length_le (by omega), hlen, Nat.add_sub_cancel_left, List.take_append_of_le_length (by omega)]
  have t2 : (A ++ x ++ R).drop (i * k + o + cs.length) = x.drop (o + cs.length) ++ R := by
    rw [List.append_assoc, List.drop_append, List.drop_of_length_le (by omega), hlen, List.nil_append, show i * k + o + cs.length - i * k = o + cs.length by omega, List.drop_append_of_le_length (by omega)]
  have t3 : (A ++ x ++ R).take (i * k) = A := by
    rw [List.append_assoc, List.take_append_of_le_length (by omega), List.take_of_length_le (by omega)]
  have t4 : (A ++ x ++ R).drop (i * k + k) = R := by
    rw [List.drop_append, List.drop_of_length_le (by rw [List.length_append]; omega), List.nil_append, List.length_append, hlen, hfi, Nat.sub_self, List.drop_zero]
  rw [t1, t2, t3, t4]
  simp only [List.append_assoc]
theorem mix_is {d e : Nat → Int} {a b : Nat} (hab : a ≤ b) (hb : b ≤ 512) : (bytesL d).take a ++ ((List.range (b - a)).map (fun i => .int .u8 (e (a + i)))) ++ (bytesL d).drop (a + ((List.range (b - a)).map (fun i => (.int .u8 (e (a + i)) : Value))).length) = bytesL (mixD d e a b) := by
  have hl : ((List.range (b - a)).map (fun i => (.int .u8 (e (a + i)) : Value))).length = b - a := by simp
  apply List.ext_getElem?
  intro x
  rw [List.append_assoc, List.getElem?_append]
  have hla : ((bytesL d).take a).length = a := by rw [List.length_take, bytesL_len]; omega
  rw [hla, hl]
  by_cases h1 : x < a
  · rw [if_pos h1, List.getElem?_take, if_pos h1, bytesL_at d (by omega), bytesL_at _ (by omega)]
    unfold mixD
    rw [if_neg (by omega)]
  · rw [if_neg h1, List.getElem?_append, hl]
    by_cases h2 : x - a < b - a
    · rw [if_pos h2, List.getElem?_map, List.getElem?_range h2, bytesL_at _ (by omega)]
      unfold mixD
      rw [if_pos (by omega)]
      show some (Value.int .u8 (e (a + (x - a)))) = _
      rw [show a + (x - a) = x by omega]
    · rw [if_neg h2, List.getElem?_drop, show a + (b - a) + (x - a - (b - a)) = x by omega]
      by_cases h3 : x < 512
      · rw [bytesL_at d h3, bytesL_at _ h3]
        unfold mixD
        rw [if_neg (by omega)]
      · rw [List.getElem?_eq_none (by rw [bytesL_len]; omega), List.getElem?_eq_none (by rw [bytesL_len]; omega)]
section
attribute [local go_sem ↓] load_B store_B load_W store_W alloc_W
set_option maxRecDepth 4000 in
set_option maxHeartbeats 8000000 in
theorem crash_any (B : Nat) (G : Nat → Prop) (d : DS) (A : Option Addr) (nl c : Nat) (lf lt : Nat → Int) (hlc : nl ≤ c) (hcm : c ≤ maxLen) (hn0 : 0 < d.n) (hn : d.n ≤ 4096) (hm : d.m ≤ 100000) (hP : ∀ i, i < d.m → d.P i < d.n) (w : World) (h : DkIs w B G d) (hs : SsIs w A nl 2 (fun i => [.int .i64 (lf i), .int .i64 (lt i)])) (hfar : ∀ a, A = some a → 0 < nl → a.block < w.heap.size → ¬ G a.block) :
    Calls Try.prog 19 #[.pointer (some ⟨B, 0, none⟩), .slice A nl c] w fun r w' => r = .returned (.tuple #[]) ∧ DkIs w' B G (d.crash lf lt nl) ∧ Tch G w w' := by
  obtain ⟨sv, wv, hA⟩ := h
  have hGB := hA.gB
  obtain ⟨Aw, cw, rfl, hw1, hw2, hw3⟩ := hA.waits.ssis (fun i => wcl_len _ _)
  obtain ⟨gs, caps, Fs, rfl, _, hs1, hs2, hs3, hs4, hs5⟩ := hA.safe.row (fun i => bytesL_len _) hn0
  unfold maxLen at hw2 hs2 hcm
  have hb := hA.box
  have c1 : w.cell? ⟨B, 1, none⟩ = some (.slice Aw d.m cw) := Blk.cell hb 1
  have hl1 := hb.lt
  have hA' := Lib.hid hA
  have hsafe0 : Hid (OwnS w 0 67 512 (.slice (some ⟨gs, 0, none⟩) d.n caps) d.n (fun b => bytesL (crD d.S d.P d.D lf lt nl 0 b))) := Lib.hid hA.safe
  have hgs := hA.gs gs rfl
  replace hP := Lib.hid hP
  replace hs := Lib.hid hs
  replace hfar := Lib.hid hfar
  clear hw3 hs3 hs4 hs5 hA hb
  go_enter Try.func19, Try.ntmps19
  go_wp2_with fail
  go_loopw [13] (fun i wr => ∃ (j : Nat), j ≤ d.m ∧ i = .int .i64 j ∧ Hid (OwnS wr 0 67 512 (.slice (some ⟨gs, 0, none⟩) d.n caps) d.n (fun b => bytesL (crD d.S d.P d.D lf lt nl j b))) ∧ Hid (Tch (fun k => k = gs) w wr)) (fun i _ => d.m - (intOf i).toNat)
  case atStart => exact ⟨0, by omega, rfl, hsafe0, Tch.refl _ _⟩
  case round =>
    clear hsafe0
    obtain ⟨j, hj, rfl, hS, htr⟩ := hrel
    have hwt := hA'.out.waits.tch htr.out (fun b x y => hA'.out.sw gs rfl (by rw [x, y]))
    have hbx := hA'.out.box.tch htr.out (fun x => hgs.2 x.symm)
    have hszr := htr.out.size
    have hend : Hid (∀ W, Below wr.heap.size wr W → (∀ b, crD d.S d.P d.D lf lt nl d.m b = crD d.S d.P d.D lf lt nl j b) → (W.cell? ⟨B, 1, none⟩ = some (.slice Aw d.m cw) ∧ W.cell? ⟨B, 3, none⟩ = some (.bool d.dn) ∧ W.cell? ⟨B, 2, none⟩ = some (.int .i64 d.f) ∧ W.frozen? ⟨B, 1, none⟩ = false ∧ W.frozen? ⟨B, 2, none⟩ = false ∧ W.frozen? ⟨B, 3, none⟩ = false ∧ B < W.heap.size) ∧ DkIs (((W.setCell ⟨B, 1, none⟩ (.slice none 0 0)).setCell ⟨B, 3, none⟩ (.bool false)).setCell ⟨B, 2, none⟩ (.int .i64 (-1))) B G (d.crash lf lt nl) ∧ Tch G w (((W.setCell ⟨B, 1, none⟩ (.slice none 0 0)).setCell ⟨B, 3, none⟩ (.bool false)).setCell ⟨B, 2, none⟩ (.int .i64 (-1)))) := Lib.hid (fun W hW hcr => by
      have hbW := hbx.kept hW
      have hsT := (((Tch.refl (fun k => k = B) W).set (p := ⟨B, 1, none⟩) (fun _ => rfl) (.slice none 0 0)).set (p := ⟨B, 3, none⟩) (fun _ => rfl) (.bool false)).set (p := ⟨B, 2, none⟩) (fun _ => rfl) (.int .i64 (-1))
      refine ⟨⟨Blk.cell hbW 1, Blk.cell hbW 3, Blk.cell hbW 2, Blk.frozen hbW 1, Blk.frozen hbW 2, Blk.frozen hbW 3, hbW.lt⟩, ⟨.slice (some ⟨gs, 0, none⟩) d.n caps, .slice none 0 0, Blk.set' (Blk.set' (Blk.set' hbW 1 _ rfl) 3 _ rfl) 2 _ rfl, ((hS.out.kept hW).tch hsT (fun b x y => ?_)).congr (fun b _ => ?_), OwnS.nil _ _ _ _ _, hGB, hA'.out.gs, fun b x => by simp [Value.ownBlock] at x, fun b _ x => by simp [Value.ownBlock] at x, fun k hk => ?_⟩, ?_⟩
      · exact (hA'.out.gs b x).2 y
      · exact congrArg bytesL (hcr b).symm
      · exact Nat.lt_of_lt_of_le (hA'.out.lt k hk) (Nat.le_trans hszr (Nat.le_trans hW.size hsT.size))
      · exact (((htr.out.mono (fun k _ x => by rw [x]; exact hgs.1)).bel hW)).trans2 hsT (fun k _ x => by rw [x]; exact hGB))
    by_cases hjl : j < d.m
    · obtain ⟨gw, capw, Fw, ew, _, hw4, hw5, hw6, hw7, hw8⟩ := hwt.row (fun i => wcl_len _ _) (by omega)
      cases ew
      have hLW := ld_W hw6 hw7 hjl hw4 hw8
      obtain ⟨W8, hst8, hb8, hbel8, hlt8⟩ := new_W wr (d.P j) (d.D j)
      by_cases hjn : j < nl
      · obtain ⟨gl, ol, rfl, hgl, hcl⟩ := hs.out (by omega)
        have hglr : gl < wr.heap.size := Nat.lt_of_lt_of_le hgl hszr
        have hgls : gl ≠ gs := fun x => hfar.out _ rfl (by omega) hgl (by show G gl; rw [x]; exact hgs.1)
        have ql := hcl j hjn
        have l0 : W8.cell? ⟨gl, ol + j * 2, none⟩ = some (.int .i64 (lf j)) := keepc hbel8 ((htr.out.cell (p := ⟨gl, ol + j * 2, none⟩) hgl hgls).trans (by simpa using ql 0 _ rfl))
        have l1 : W8.cell? ⟨gl, ol + j * 2 + 1, none⟩ = some (.int .i64 (lt j)) := keepc hbel8 ((htr.out.cell (p := ⟨gl, ol + j * 2 + 1, none⟩) hgl hgls).trans (by simpa using ql 1 _ rfl))
        obtain ⟨gs', capS, FS, eS, _, hS1, hS2, hS3, hS4, hS5⟩ := hS.out.row (fun i => bytesL_len _) hn0
        cases eS
        have hPj := hP.out j hjl
        obtain ⟨x0, x1⟩ := cell_W hb8
        have y0 : W8.cell? ⟨B, 0, none⟩ = some (.slice (some ⟨gs, 0, none⟩) d.n caps) := Blk.cell (hbx.kept hbel8) 0
        have yl := (hbx.kept hbel8).lt
        have ha := clampN_le (lf j)
        have hb5 := clampN_le (lt j)
        have na := clampN_is (lf j)
        have nb := clampN_is (lt j)
        have hcr : ∀ b, crD d.S d.P d.D lf lt nl (j + 1) b = if d.P j = b then mixD (crD d.S d.P d.D lf lt nl j b) (d.D j) (clampN (lf j)) (clampN (lt j)) else crD d.S d.P d.D lf lt nl j b := fun b => by
          show (if j < nl ∧ d.P j = b then _ else _) = _
          by_cases e : d.P j = b
          · rw [if_pos ⟨hjn, e⟩, if_pos e]
          · rw [if_neg (fun x => e x.2), if_neg e]
        generalize lf j = z1 at *
        generalize lt j = z2 at *
        generalize clampN z1 = a at *
        generalize clampN z2 = b at *
        replace na := Lib.hid na
        replace nb := Lib.hid nb
        by_cases hab : a < b
        · have hrel' : Hid (OwnS (W8.drew.setRow gs (rowC caps (updL FS (d.P j) (bytesL (mixD (crD d.S d.P d.D lf lt nl j (d.P j)) (d.D j) a b)))).toArray) 0 67 512 (.slice (some ⟨gs, 0, none⟩) d.n caps) d.n (fun b => bytesL (crD d.S d.P d.D lf lt nl (j + 1) b)) ∧ Tch (fun k => k = gs) w (W8.drew.setRow gs (rowC caps (updL FS (d.P j) (bytesL (mixD (crD d.S d.P d.D lf lt nl j (d.P j)) (d.D j) a b)))).toArray)) := Lib.hid (by
            refine ⟨OwnS.of_row (setRow_heap _ _ _ _ _ _ (hS3.kept hbel8).drew) (updL_len hS4 (bytesL_len _)) (fun b hb => ?_) (Nat.zero_le _) hS1 (by unfold maxLen; exact hs2), ((htr.out.bel hbel8).drew).setRow (fun _ => rfl) _⟩
            rw [hcr b]
            unfold updL
            by_cases e : b = d.P j
            · rw [if_pos e, if_pos e.symm, e]
            · rw [if_neg e, if_neg (fun x => e x.symm), hS5 b hb])
          have hcp : (Builtin.copy_ #[39, 39] 3 #[.slice (some ⟨gs, d.P j * 512 + a, none⟩) (b - a) (512 - a), .slice (some ⟨wr.heap.size, 1 + a, none⟩) (b - a) (512 - a)]).run Try.prog W8.drew = .ok (.int .i64 (b - a : Nat)) (W8.drew.setRow gs (rowC caps (updL FS (d.P j) (bytesL (mixD (crD d.S d.P d.D lf lt nl j (d.P j)) (d.D j) a b)))).toArray) := by
            have hlen : ((List.range (b - a)).map (fun i => (.int .u8 (d.D j (a + i)) : Value))).length = b - a := by simp
            have hr := run_copy_row1 (P := Try.prog) W8.drew 39 39 3 5 gs (d.P j * 512 + a) (b - a) (512 - a) ⟨wr.heap.size, 1 + a, none⟩ (b - a) (512 - a) (rowC caps FS).toArray _ ((List.range (b - a)).map (fun i => (.int .u8 (d.D j (a + i)) : Value))) Try.underlying39 info_u8s (hS3.kept hbel8).drew (by rw [hlen]; show b - a = min (b - a) (b - a); omega) (fun i v hi => by
              have him : i < b - a := by have := (List.getElem?_eq_some_iff.1 hi).1; rwa [hlen] at this
              have e : (⟨wr.heap.size, 1 + a, none⟩ : Addr).add i = ⟨wr.heap.size, 1 + a + i, none⟩ := by unfold Addr.add; split <;> simp_all
              rw [e, Nat.add_assoc]
              refine (x1 (a + i) (by omega)).trans ?_
              rw [← hi, List.getElem?_map, List.getElem?_range him]
              rfl) (by rw [hlen]; simp [rowC_len hS4]; have := Nat.mul_le_mul_right 512 (show d.P j + 1 ≤ caps by omega); omega) (fun v hv => by
              obtain ⟨i, _, rfl⟩ := List.mem_map.1 hv
              rfl)
            rw [hr, hlen]
            congr 3
            have hp := rowC_part (f := FS) (k := 512) (n := caps) (i := d.P j) (o := a) (cs := (List.range (b - a)).map (fun i => (.int .u8 (d.D j (a + i)) : Value))) hS4 (by omega) (by rw [hlen]; omega)
            rw [hlen] at hp
            rw [hp, hS5 (d.P j) hPj]
            have hm := mix_is (d := crD d.S d.P d.D lf lt nl j (d.P j)) (e := d.D j) (a := a) (b := b) (by omega) hb5
            rw [hlen] at hm
            rw [hm]
          have hsl1 := fun W => slice_Blk gs (d.P j * 512) a b hab hb5 W
          have hsl2 := fun W => slice_Blk wr.heap.size 1 a b hab hb5 W
          clear hend hwt hbx hw6 hw7 hw8 hb8 hS htr hcl x1 hS3 hS4 hS5 hcr
          replace hab := Lib.hid hab
          replace hb5 := Lib.hid hb5
          replace ha := Lib.hid ha
          go_upto_region 6 with fail
          rw [na.out, nb.out]
          replace hab := hab.out
          replace hb5 := hb5.out
          clear na nb ha
          generalize d.P j = p at *
          go_upto_region 7 with fail
          go_region
          all_goals
            go_wp2_with fail
            go_roundw
          all_goals first | exact ⟨j + 1, by omega, by go_num, Lib.hid hrel'.out.1, Lib.hid hrel'.out.2⟩ | (simp [intOf]; omega)
        · have hrel' : Hid (OwnS W8 0 67 512 (.slice (some ⟨gs, 0, none⟩) d.n caps) d.n (fun b => bytesL (crD d.S d.P d.D lf lt nl (j + 1) b)) ∧ Tch (fun k => k = gs) w W8) := Lib.hid (by
            refine ⟨(hS.out.kept hbel8).congr (fun b' hb' => bytesL_congr (fun x hx => ?_)), htr.out.bel hbel8⟩
            rw [hcr b']
            split
            · unfold mixD
              rw [if_neg (by omega)]
            · rfl)
          clear hend hwt hbx hw6 hw7 hw8 hb8 hS htr hcl x1 hS3 hS4 hS5 hcr
          replace hab := Lib.hid hab
          replace hb5 := Lib.hid hb5
          replace ha := Lib.hid ha
          go_upto_region 6 with fail
          rw [na.out, nb.out]
          replace hab := hab.out
          clear na nb ha hb5
          go_wp2_with fail
          go_roundw
          case rel => exact ⟨j + 1, by omega, by go_num, Lib.hid hrel'.out.1, Lib.hid hrel'.out.2⟩
          case measure => simp [intOf]; omega
      · obtain ⟨q1, q2, q3⟩ := hend.out W8 hbel8 (fun b => (crD_far (by omega)).trans (crD_far (by omega)).symm)
        obtain ⟨y1, y2, y3, y4, y5, y6, y7⟩ := q1
        replace q2 := Lib.hid q2
        replace q3 := Lib.hid q3
        clear hend hwt hbx hw6 hw7 hw8 hb8 hS htr
        go_wp2_with fail
        go_end0
        exact ⟨rfl, q2.out, q3.out⟩
    · obtain rfl : j = d.m := by omega
      obtain ⟨q1, q2, q3⟩ := hend.out wr (Below.refl _ _) (fun _ => rfl)
      obtain ⟨y1, y2, y3, y4, y5, y6, y7⟩ := q1
      replace q2 := Lib.hid q2
      replace q3 := Lib.hid q3
      clear hend hwt hbx hS htr
      go_wp2_with fail
      go_end0
      exact ⟨rfl, q2.out, q3.out⟩
end
end Go.Proofs.Ytnbfnlpepnbppaa
