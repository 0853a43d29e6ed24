/-
  merged, walked.
-/
import Derived.Test.YtecaegjonhimmaaMgP
namespace Go.Proofs.Ytecaegjonhimmaa
set_option linter.unusedVariables false
set_option linter.unusedSimpArgs false
open Go.RowKit Go.Shelf

theorem run_appT {w : World} {t e by_ k : Nat} {v z : Value} {n g c : Nat} {f : Nat → List Value} {t0 : TypeId} (ty : TypeId) (hu : Try.prog.underlying t = some (.slice e)) (hi5 : (Try.prog.info? e).map (fun i => (i.zero, i.size, i.bytes)) = some (some z, k, by_)) (hz : z.cells.size = k) (hk : 0 < k) (hby : by_ ≤ 256)
    (ho : OwnS w 0 e k v n f) (hl : (f n).length = k) (hB : Blk w g t0 (f n).toArray) (h1 : ∀ u ∈ f n, u.oneCell' = true) (h : n ≤ 1000000) :
    ∃ v' w', (Builtin.append_ #[t, t] ty #[v, .slice (some ⟨g, 0, none⟩) 1 c]).run Try.prog w = .ok v' w' ∧ OwnS w' 0 e k v' (n + 1) f ∧ Tch (fun k => v.ownBlock = some k) w w' ∧ (v'.ownBlock = v.ownBlock ∨ v'.ownBlock = some w.heap.size) := by
  obtain ⟨i0, hi0, hz0, hz1, hz2⟩ := info_parts hi5
  have hb : (n + 1) * by_ ≤ 140737488355328 := Nat.le_trans (Nat.mul_le_mul (show n + 1 ≤ 1000001 by omega) hby) (by decide)
  obtain ⟨v', w', hr, h2, h3, _, h4⟩ := run_append_own_at (P := Try.prog) w 0 t ty e i0 _ k by_ hu hi0 hz0 hz1 hz2 hz hk v n _ ho ⟨g, 0, none⟩ 1 c (f n) (by rw [hl, Nat.one_mul]) (news_blk hB) h1 (by unfold maxLen; omega) hb (Nat.zero_le _)
  refine ⟨v', w', hr, ?_, tch_grown h3, h4⟩
  unfold OwnS
  rw [List.range_succ, List.flatMap_append]
  simpa using h2
section
variable {ops : Array Oper} {rest : List Oper} {o : Oper} {a : Act} {w : World} {Q : Exit → Act → World → Prop}
theorem wpList_appT (hgd : o.guard = none) (s y : Operand) {t e by_ k : Nat} {z : Value} {t0 : TypeId} (hu : Try.prog.underlying t = some (.slice e)) (hi5 : (Try.prog.info? e).map (fun i => (i.zero, i.size, i.bytes)) = some (some z, k, by_)) (hz : z.cells.size = k) (hk : 0 < k) (hby : by_ ≤ 256)
    (ho : o.op = .call { callee := .builtin .append, args := #[s, y], argTypes := #[t, t] })
    {v : Value} {n g c : Nat} {f : Nat → List Value} (hs : a.eval s = v) (hy : a.eval y = .slice (some ⟨g, 0, none⟩) 1 c) (hO : OwnS w 0 e k v n f) (hl : (f n).length = k) (hB : Blk w g t0 (f n).toArray) (h1 : ∀ u ∈ f n, u.oneCell' = true) (h : n ≤ 1000000)
    (hK : ∀ v' w', OwnS w' 0 e k v' (n + 1) f → Tch (fun k => v.ownBlock = some k) w w' → (v'.ownBlock = v.ownBlock ∨ v'.ownBlock = some w.heap.size) → wpList Try.prog ops Q rest (a.put o.dst v') w') : wpList Try.prog ops Q (o :: rest) a w := by
  obtain ⟨v', w', hr, h2, h3, h4⟩ := run_appT (c := c) o.type hu hi5 hz hk hby hO hl hB h1 h
  exact Lib.wpList_append_run w hgd s y _ _ ho _ _ hs hy v' w' hr (hK v' w' h2 h3 h4)
end
theorem OwnS.ltB {w : World} {base : Nat} {e : TypeId} {k : Nat} {v : Value} {n : Nat} {f : Nat → List Value} (h : OwnS w base e k v n f) : ∀ b, v.ownBlock = some b → b < w.heap.size := by
  obtain ⟨hl, h2⟩ := h
  rcases h2 with ⟨rfl, _⟩ | ⟨g, cap, cur, rfl, hb, hh, h3⟩
  · intro b hb; simp [Value.ownBlock] at hb
  · intro b hb2
    simp [Value.ownBlock] at hb2
    subst hb2
    exact (Array.getElem?_eq_some_iff.1 hh).1
/-- m sources over lists, made since base -/
structure Made (w : World) (base m : Nat) (bx rb : Nat → Nat) (L : Nat → List (Nat → Int)) : Prop where
  src : ∀ s, s < m → SrcIs w (bx s) (rb s) (L s)
  lt : ∀ s, s < m → base ≤ bx s ∧ base ≤ rb s ∧ bx s < w.heap.size ∧ rb s < w.heap.size
  ne : ∀ s t, s < m → t < m → s ≠ t → bx s ≠ bx t ∧ rb s ≠ bx t
theorem Made.tch {S : Nat → Prop} {w w' : World} {base m : Nat} {bx rb : Nat → Nat} {L : Nat → List (Nat → Int)} (h : Made w base m bx rb L) (ht : Tch S w w') (h1 : ∀ s, s < m → ¬ S (bx s) ∧ ¬ S (rb s)) : Made w' base m bx rb L :=
  ⟨fun s hs => (h.src s hs).tch ht (h1 s hs).1 (h1 s hs).2, fun s hs => by obtain ⟨a, b, c, d⟩ := h.lt s hs; have := ht.size; omega, h.ne⟩
theorem Made.kept {w w' : World} {base m : Nat} {bx rb : Nat → Nat} {L : Nat → List (Nat → Int)} (h : Made w base m bx rb L) (hb : Below w.heap.size w w') : Made w' base m bx rb L := h.tch (S := fun _ => False) (tch_of hb _) (fun _ _ => ⟨id, id⟩)
theorem Made.next {w w' : World} {base m b r : Nat} {bx rb : Nat → Nat} {L : Nat → List (Nat → Int)} (h : Made w base m bx rb L) (hb : Below w.heap.size w w') (hs : SrcIs w' b r (L m)) (h1 : w.heap.size ≤ b) (h2 : b < w'.heap.size) (h3 : w.heap.size ≤ r) (h4 : r < w'.heap.size) (h5 : base ≤ w.heap.size) :
    Made w' base (m + 1) (updN bx m b) (updN rb m r) L := by
  have hk := h.kept hb
  have o1 : ∀ {p : Nat → Nat} {v s}, s ≠ m → updN p m v s = p s := fun h => if_neg h
  have n1 : ∀ {p : Nat → Nat} {v}, updN p m v m = v := if_pos rfl
  refine ⟨fun s hs2 => ?_, fun s hs2 => ?_, fun s t hs2 ht2 hst => ?_⟩
  · by_cases e : s = m
    · subst e; rw [n1, n1]; exact hs
    · rw [o1 e, o1 e]; exact hk.src s (by omega)
  · by_cases e : s = m
    · subst e; rw [n1, n1]; omega
    · rw [o1 e, o1 e]; exact hk.lt s (by omega)
  · by_cases e : s = m <;> by_cases e2 : t = m
    · omega
    · subst e; rw [n1, n1, o1 e2]; have := h.lt t (by omega); omega
    · subst e2; rw [n1, o1 e, o1 e]; have := h.lt s (by omega); omega
    · rw [o1 e, o1 e, o1 e2]; exact h.ne s t (by omega) (by omega) hst
theorem Made.st {w : World} {base m : Nat} {bx rb : Nat → Nat} {L : Nat → List (Nat → Int)} (h : Made w base m bx rb L) : (ofSys m bx rb L).St w (fun _ => 0) := fun s hs => ⟨h.src s hs, (h.lt s hs).2.2.2⟩
def srcV (b : Nat) : Value := .func (.func 22) #[] #[.pointer (some ⟨b, 0, none⟩)]
set_option maxHeartbeats 8000000 in
theorem merged_any (dn : Bool) (A : Option Addr) (n c : Nat) (L : Nat → List (Nat → Int)) (hn : n ≤ c) (hc : c ≤ maxLen) (hn2 : n ≤ 20) (hl : ∀ i, i < n → (L i).length ≤ 100) (w : World) (hL : LsIs w A n L) :
    Calls Try.prog 9 #[.bool dn, .slice A n c] w fun r w' => ∃ B bx rb, r = .returned (.pointer (some ⟨B, 0, none⟩)) ∧ (ofSys n bx rb L).Ok ∧ (∀ k, (ofSys n bx rb L).T k → w.heap.size ≤ k ∧ k < B) ∧ MAt (ofSys n bx rb L) w' B dn (fun _ => 0) (fun k => w.heap.size ≤ k) ∧ w.heap.size ≤ B ∧ Below w.heap.size w w' := by
  replace hL := Lib.hid hL
  replace hl := Lib.hid hl
  unfold maxLen at hc
  have h0 : ∃ bx rb, Hid (Made w w.heap.size 0 bx rb L) ∧ Hid (OwnS w 0 36 1 (.slice none 0 0) 0 (fun s => [srcV (bx s)])) := ⟨fun _ => 0, fun _ => 0, ⟨fun s h => by omega, fun s h => by omega, fun s t h => by omega⟩, OwnS.nil _ _ _ _ _⟩
  replace h0 := Lib.hid h0
  go_enter Try.func9, Try.ntmps9
  go_wp2_with fail
  go_loopw [5, 10] (fun v i wr => ∃ (m : Nat) (bx rb : Nat → Nat), m ≤ n ∧ i = .int .i64 m ∧ Hid (Made wr w.heap.size m bx rb L) ∧ Hid (OwnS wr 0 36 1 v m (fun s => [srcV (bx s)])) ∧ Hid (∀ b, v.ownBlock = some b → w.heap.size ≤ b ∧ ∀ s, s < m → b ≠ bx s ∧ b ≠ rb s) ∧ Hid (Below w.heap.size w wr)) (fun _ i _ => n - (intOf i).toNat)
  case atStart =>
    obtain ⟨bx, rb, h1, h2⟩ := h0.out
    exact ⟨0, bx, rb, by omega, rfl, h1, h2, fun b hb => by simp [Value.ownBlock] at hb, Below.refl _ _⟩
  case round =>
    clear h0
    obtain ⟨m, bx, rb, hm, rfl, hM, hO, hob, hb⟩ := hrel
    have hsz := hb.out.size
    obtain ⟨A1, c1, rfl, hq1, hq2, hq3⟩ := hO.out.ssis (fun _ => rfl)
    unfold maxLen at hq2
    by_cases hlt : m < n
    · obtain ⟨b, o, rfl, hbl, hcs⟩ := (hL.out.kept hb.out) (by omega)
      obtain ⟨Ai, ci, a0, a1, a2, a3⟩ := hcs m hlt
      have hlm := hl.out m hlt
      have cI := items_any Ai ci (L m) a1 a2 (by omega) wr a3
      replace cI := Lib.hid cI
      unfold maxLen at a2
      replace hq3 := Lib.hid hq3
      clear hcs a3
      go_wp2_with fail
      refine cI.out.mono ?_
      rintro e2 w2 ⟨v2, rfl, ho2, hb2⟩
      obtain ⟨A2, c2, rfl, _, _, hs2⟩ := ho2.ssis (fun _ => rfl)
      have cO := of_any A2 c2 (L m) (by omega) w2 hs2
      replace cO := Lib.hid cO
      replace hb2 := Lib.hid hb2
      clear ho2 hs2 cI
      go_wp2_with fail
      refine cO.out.mono ?_
      rintro e3 w3 ⟨bb, rr, rfl, hsrc, z1, z2, z3, z4, hb3⟩
      have hb23 := bel_eld hb2.out hb3
      have hz2 := hb2.out.size
      have hM3 := Lib.hid (hM.out.next hb23 hsrc (by omega) z2 (by omega) z4 (by omega))
      have hO3 : Hid (OwnS w3 0 36 1 (.slice A1 m c1) m (fun s => [srcV (updN bx m bb s)])) := Lib.hid ((hO.out.kept hb23).congr (fun i hi => by unfold updN; rw [if_neg (by omega)]))
      have hnew : Hid (srcV (updN bx m bb m) = .func (.func 22) #[] #[.pointer (some ⟨bb, 0, none⟩)]) := Lib.hid (by unfold updN srcV; rw [if_pos rfl])
      have hbb := Lib.hid (bel_eld hb.out hb23)
      have hob3 : Hid (∀ b, (Value.slice A1 m c1).ownBlock = some b → w.heap.size ≤ b ∧ b < wr.heap.size ∧ ∀ s, s < m + 1 → b ≠ updN bx m bb s ∧ b ≠ updN rb m rr s) := Lib.hid (fun b hb4 => by
        have hlt4 := hO.out.ltB b hb4
        obtain ⟨q1, q2⟩ := hob.out b hb4
        refine ⟨q1, hlt4, fun s hs => ?_⟩
        unfold updN
        by_cases e : s = m
        · rw [if_pos e, if_pos e]; omega
        · rw [if_neg e, if_neg e]; exact q2 s (by omega))
      have hsz3 := hb3.size
      replace hb23 := Lib.hid hb23
      clear hM hO hob hb hsrc hb3 hb2 cO hq3
      go_wp2_with (at_builtin; go_loud (refine wpList_appT rfl (.tmp 14) (.tmp 18) (t0 := 36) (f := fun s => [srcV (updN bx m bb s)]) (t := 45) Try.underlying45 info_Fn rfl (by omega) (by omega) rfl rfl rfl (hO3.out.kept (bel_alloc (Below.refl _ _) _)) rfl (by rw [hnew.out]; exact Blk.new _ _ _) (by intro u hu; simp only [List.mem_cons, List.not_mem_nil, or_false] at hu; subst hu; rfl) (by omega) ?_); intro v5 w5 ho5 ht5 hob5)
      go_roundw
      case rel =>
        refine ⟨m + 1, updN bx m bb, updN rb m rr, by omega, by go_num, Lib.hid ((hM3.out.kept (bel_alloc (Below.refl _ _) _)).tch ht5 (fun s hs => ⟨fun e => ((hob3.out _ e).2.2 s hs).1 rfl, fun e => ((hob3.out _ e).2.2 s hs).2 rfl⟩)), Lib.hid ho5, Lib.hid (fun b hb6 => ?_), Lib.hid (((tch_of (bel_alloc hbb.out _) (fun _ => False)).trans2 ht5 (fun k hk e => by have := (hob3.out _ e).1; omega)).below (Nat.le_refl _) (fun _ _ => id))⟩
        rcases hob5 with e | e
        · rw [e] at hb6
          obtain ⟨q1, q2, q3⟩ := hob3.out b hb6
          exact ⟨q1, q3⟩
        · rw [e] at hb6
          simp at hb6
          refine ⟨by omega, fun s hs => ?_⟩
          have := hM3.out.lt s hs
          omega
      case measure => simp [intOf]; omega
    · obtain rfl : m = n := by omega
      have hok : (ofSys m bx rb L).Ok := ofSys_ok (by omega) hM.out.ne
      have cN := new_any (ofSys m bx rb L) dn A1 c1 wr hok hq3 hM.out.st
      have hT : ∀ k, (ofSys m bx rb L).T k → w.heap.size ≤ k ∧ k < wr.heap.size := fun k ⟨s, hs, e⟩ => by
        have := hM.out.lt s hs
        rcases e with e | e <;> omega
      replace hT := Lib.hid hT
      replace hok := Lib.hid hok
      replace cN := Lib.hid cN
      clear hq3
      go_wp2_with fail
      refine cN.out.mono ?_
      rintro e2 w2 ⟨B, rfl, hMA, hB, hb2⟩
      replace hMA := Lib.hid hMA
      go_wp2_with fail
      go_ret
      exact ⟨B, bx, rb, rfl, hok.out, fun k hk => by have := hT.out k hk; omega, hMA.out.mono (fun k _ h => by omega), by omega, bel_eld hb.out hb2⟩
end Go.Proofs.Ytecaegjonhimmaa
