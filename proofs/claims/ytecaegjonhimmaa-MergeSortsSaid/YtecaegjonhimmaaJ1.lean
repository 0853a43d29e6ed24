/-
  Joined: MgQ MgR MgS MgT.
-/
import Derived.Test.YtecaegjonhimmaaJ4
-- MgQ
namespace Go.Proofs.Ytecaegjonhimmaa
set_option linter.unusedVariables false
set_option linter.unusedSimpArgs false
open Go.RowKit Go.Shelf

theorem run_appT {w : World} {t e by_ k : Nat} {v z : Value} {n g c : Nat} {f : Nat → List Value} {t0 : TypeId} (ty : TypeId) (hu : Try.prog.underlying t = some (.slice e)) (hi5 : (Try.prog.info? e).map (fun i => (i.zero, i.size, i.bytes)) = some (some z, k, by_)) (hz : z.cells.size = k) (hk : 0 < k) (hby : by_ ≤ 256)
    (ho : OwnS w 0 e k v n f) (hl : (f n).length = k) (hB : Blk w g t0 (f n).toArray) (h1 : ∀ u ∈ f n, u.oneCell' = true) (h : n ≤ 1000000) :
    ∃ v' w', (Builtin.append_ #[t, t] ty #[v, .slice (some ⟨g, 0, none⟩) 1 c]).run Try.prog w = .ok v' w' ∧ OwnS w' 0 e k v' (n + 1) f ∧ Tch (fun k => v.ownBlock = some k) w w' ∧ (v'.ownBlock = v.ownBlock ∨ v'.ownBlock = some w.heap.size) := by
  obtain ⟨i0, hi0, hz0, hz1, hz2⟩ := info_parts hi5
  have hb : (n + 1) * by_ ≤ 140737488355328 := Nat.le_trans (Nat.mul_le_mul (show n + 1 ≤ 1000001 by omega) hby) (by decide)
  obtain ⟨v', w', hr, h2, h3, _, h4⟩ := run_append_own_at (P := Try.prog) w 0 t ty e i0 _ k by_ hu hi0 hz0 hz1 hz2 hz hk v n _ ho ⟨g, 0, none⟩ 1 c (f n) (by rw [hl, Nat.one_mul]) (news_blk hB) h1 (by unfold maxLen; omega) hb (Nat.zero_le _)
  refine ⟨v', w', hr, ?_, tch_grown h3, h4⟩
  unfold OwnS
  rw [List.range_succ, List.flatMap_append]
  simpa using h2
section
variable {ops : Array Oper} {rest : List Oper} {o : Oper} {a : Act} {w : World} {Q : Exit → Act → World → Prop}
theorem wpList_appT (hgd : o.guard = none) (s y : Operand) {t e by_ k : Nat} {z : Value} {t0 : TypeId} (hu : Try.prog.underlying t = some (.slice e)) (hi5 : (Try.prog.info? e).map (fun i => (i.zero, i.size, i.bytes)) = some (some z, k, by_)) (hz : z.cells.size = k) (hk : 0 < k) (hby : by_ ≤ 256)
    (ho : o.op = .call { callee := .builtin .append, args := #[s, y], argTypes := #[t, t] })
    {v : Value} {n g c : Nat} {f : Nat → List Value} (hs : a.eval s = v) (hy : a.eval y = .slice (some ⟨g, 0, none⟩) 1 c) (hO : OwnS w 0 e k v n f) (hl : (f n).length = k) (hB : Blk w g t0 (f n).toArray) (h1 : ∀ u ∈ f n, u.oneCell' = true) (h : n ≤ 1000000)
    (hK : ∀ v' w', OwnS w' 0 e k v' (n + 1) f → Tch (fun k => v.ownBlock = some k) w w' → (v'.ownBlock = v.ownBlock ∨ v'.ownBlock = some w.heap.size) → wpList Try.prog ops Q rest (a.put o.dst v') w') : wpList Try.prog ops Q (o :: rest) a w := by
  obtain ⟨v', w', hr, h2, h3, h4⟩ := run_appT (c := c) o.type hu hi5 hz hk hby hO hl hB h1 h
  exact Lib.wpList_append_run w hgd s y _ _ ho _ _ hs hy v' w' hr (hK v' w' h2 h3 h4)
end
theorem OwnS.ltB {w : World} {base : Nat} {e : TypeId} {k : Nat} {v : Value} {n : Nat} {f : Nat → List Value} (h : OwnS w base e k v n f) : ∀ b, v.ownBlock = some b → b < w.heap.size := by
  obtain ⟨hl, h2⟩ := h
  rcases h2 with ⟨rfl, _⟩ | ⟨g, cap, cur, rfl, hb, hh, h3⟩
  · intro b hb; simp [Value.ownBlock] at hb
  · intro b hb2
    simp [Value.ownBlock] at hb2
    subst hb2
    exact (Array.getElem?_eq_some_iff.1 hh).1
/-- m sources over lists, made since base -/
structure Made (w : World) (base m : Nat) (bx rb : Nat → Nat) (L : Nat → List (Nat → Int)) : Prop where
  src : ∀ s, s < m → SrcIs w (bx s) (rb s) (L s)
  lt : ∀ s, s < m → base ≤ bx s ∧ base ≤ rb s ∧ bx s < w.heap.size ∧ rb s < w.heap.size
  ne : ∀ s t, s < m → t < m → s ≠ t → bx s ≠ bx t ∧ rb s ≠ bx t
theorem Made.tch {S : Nat → Prop} {w w' : World} {base m : Nat} {bx rb : Nat → Nat} {L : Nat → List (Nat → Int)} (h : Made w base m bx rb L) (ht : Tch S w w') (h1 : ∀ s, s < m → ¬ S (bx s) ∧ ¬ S (rb s)) : Made w' base m bx rb L :=
  ⟨fun s hs => (h.src s hs).tch ht (h1 s hs).1 (h1 s hs).2, fun s hs => by obtain ⟨a, b, c, d⟩ := h.lt s hs; have := ht.size; omega, h.ne⟩
theorem Made.kept {w w' : World} {base m : Nat} {bx rb : Nat → Nat} {L : Nat → List (Nat → Int)} (h : Made w base m bx rb L) (hb : Below w.heap.size w w') : Made w' base m bx rb L := h.tch (S := fun _ => False) (tch_of hb _) (fun _ _ => ⟨id, id⟩)
theorem Made.next {w w' : World} {base m b r : Nat} {bx rb : Nat → Nat} {L : Nat → List (Nat → Int)} (h : Made w base m bx rb L) (hb : Below w.heap.size w w') (hs : SrcIs w' b r (L m)) (h1 : w.heap.size ≤ b) (h2 : b < w'.heap.size) (h3 : w.heap.size ≤ r) (h4 : r < w'.heap.size) (h5 : base ≤ w.heap.size) :
    Made w' base (m + 1) (updN bx m b) (updN rb m r) L := by
  have hk := h.kept hb
  have o1 : ∀ {p : Nat → Nat} {v s}, s ≠ m → updN p m v s = p s := fun h => if_neg h
  have n1 : ∀ {p : Nat → Nat} {v}, updN p m v m = v := if_pos rfl
  refine ⟨fun s hs2 => ?_, fun s hs2 => ?_, fun s t hs2 ht2 hst => ?_⟩
  · by_cases e : s = m
    · subst e; rw [n1, n1]; exact hs
    · rw [o1 e, o1 e]; exact hk.src s (by omega)
  · by_cases e : s = m
    · subst e; rw [n1, n1]; omega
    · rw [o1 e, o1 e]; exact hk.lt s (by omega)
  · by_cases e : s = m <;> by_cases e2 : t = m
    · omega
    · subst e; rw [n1, n1, o1 e2]; have := h.lt t (by omega); omega
    · subst e2; rw [n1, o1 e, o1 e]; have := h.lt s (by omega); omega
    · rw [o1 e, o1 e, o1 e2]; exact h.ne s t (by omega) (by omega) hst
theorem Made.st {w : World} {base m : Nat} {bx rb : Nat → Nat} {L : Nat → List (Nat → Int)} (h : Made w base m bx rb L) : (ofSys m bx rb L).St w (fun _ => 0) := fun s hs => ⟨h.src s hs, (h.lt s hs).2.2.2⟩
def srcV (b : Nat) : Value := .func (.func 22) #[] #[.pointer (some ⟨b, 0, none⟩)]
set_option maxHeartbeats 8000000 in
theorem merged_any (dn : Bool) (A : Option Addr) (n c : Nat) (L : Nat → List (Nat → Int)) (hn : n ≤ c) (hc : c ≤ maxLen) (hn2 : n ≤ 20) (hl : ∀ i, i < n → (L i).length ≤ 100) (w : World) (hL : LsIs w A n L) :
    Calls Try.prog 9 #[.bool dn, .slice A n c] w fun r w' => ∃ B bx rb, r = .returned (.pointer (some ⟨B, 0, none⟩)) ∧ (ofSys n bx rb L).Ok ∧ (∀ k, (ofSys n bx rb L).T k → w.heap.size ≤ k ∧ k < B) ∧ MAt (ofSys n bx rb L) w' B dn (fun _ => 0) (fun k => w.heap.size ≤ k) ∧ w.heap.size ≤ B ∧ Below w.heap.size w w' := by
  replace hL := Lib.hid hL
  replace hl := Lib.hid hl
  unfold maxLen at hc
  have h0 : ∃ bx rb, Hid (Made w w.heap.size 0 bx rb L) ∧ Hid (OwnS w 0 36 1 (.slice none 0 0) 0 (fun s => [srcV (bx s)])) := ⟨fun _ => 0, fun _ => 0, ⟨fun s h => by omega, fun s h => by omega, fun s t h => by omega⟩, OwnS.nil _ _ _ _ _⟩
  replace h0 := Lib.hid h0
  go_enter Try.func9, Try.ntmps9
  go_wp2_with fail
  go_loopw [5, 10] (fun v i wr => ∃ (m : Nat) (bx rb : Nat → Nat), m ≤ n ∧ i = .int .i64 m ∧ Hid (Made wr w.heap.size m bx rb L) ∧ Hid (OwnS wr 0 36 1 v m (fun s => [srcV (bx s)])) ∧ Hid (∀ b, v.ownBlock = some b → w.heap.size ≤ b ∧ ∀ s, s < m → b ≠ bx s ∧ b ≠ rb s) ∧ Hid (Below w.heap.size w wr)) (fun _ i _ => n - (intOf i).toNat)
  case atStart =>
    obtain ⟨bx, rb, h1, h2⟩ := h0.out
    exact ⟨0, bx, rb, by omega, rfl, h1, h2, fun b hb => by simp [Value.ownBlock] at hb, Below.refl _ _⟩
  case round =>
    clear h0
    obtain ⟨m, bx, rb, hm, rfl, hM, hO, hob, hb⟩ := hrel
    have hsz := hb.out.size
    obtain ⟨A1, c1, rfl, hq1, hq2, hq3⟩ := hO.out.ssis (fun _ => rfl)
    unfold maxLen at hq2
    by_cases hlt : m < n
    · obtain ⟨b, o, rfl, hbl, hcs⟩ := (hL.out.kept hb.out) (by omega)
      obtain ⟨Ai, ci, a0, a1, a2, a3⟩ := hcs m hlt
      have hlm := hl.out m hlt
      have cI := items_any Ai ci (L m) a1 a2 (by omega) wr a3
      replace cI := Lib.hid cI
      unfold maxLen at a2
      replace hq3 := Lib.hid hq3
      clear hcs a3
      go_wp2_with fail
      refine cI.out.mono ?_
      rintro e2 w2 ⟨v2, rfl, ho2, hb2⟩
      obtain ⟨A2, c2, rfl, _, _, hs2⟩ := ho2.ssis (fun _ => rfl)
      have cO := of_any A2 c2 (L m) (by omega) w2 hs2
      replace cO := Lib.hid cO
      replace hb2 := Lib.hid hb2
      clear ho2 hs2 cI
      go_wp2_with fail
      refine cO.out.mono ?_
      rintro e3 w3 ⟨bb, rr, rfl, hsrc, z1, z2, z3, z4, hb3⟩
      have hb23 := bel_eld hb2.out hb3
      have hz2 := hb2.out.size
      have hM3 := Lib.hid (hM.out.next hb23 hsrc (by omega) z2 (by omega) z4 (by omega))
      have hO3 : Hid (OwnS w3 0 36 1 (.slice A1 m c1) m (fun s => [srcV (updN bx m bb s)])) := Lib.hid ((hO.out.kept hb23).congr (fun i hi => by unfold updN; rw [if_neg (by omega)]))
      have hnew : Hid (srcV (updN bx m bb m) = .func (.func 22) #[] #[.pointer (some ⟨bb, 0, none⟩)]) := Lib.hid (by unfold updN srcV; rw [if_pos rfl])
      have hbb := Lib.hid (bel_eld hb.out hb23)
      have hob3 : Hid (∀ b, (Value.slice A1 m c1).ownBlock = some b → w.heap.size ≤ b ∧ b < wr.heap.size ∧ ∀ s, s < m + 1 → b ≠ updN bx m bb s ∧ b ≠ updN rb m rr s) := Lib.hid (fun b hb4 => by
        have hlt4 := hO.out.ltB b hb4
        obtain ⟨q1, q2⟩ := hob.out b hb4
        refine ⟨q1, hlt4, fun s hs => ?_⟩
        unfold updN
        by_cases e : s = m
        · rw [if_pos e, if_pos e]; omega
        · rw [if_neg e, if_neg e]; exact q2 s (by omega))
      have hsz3 := hb3.size
      replace hb23 := Lib.hid hb23
      clear hM hO hob hb hsrc hb3 hb2 cO hq3
      go_wp2_with (at_builtin; go_loud (refine wpList_appT rfl (.tmp 14) (.tmp 18) (t0 := 36) (f := fun s => [srcV (updN bx m bb s)]) (t := 45) Try.underlying45 info_Fn rfl (by omega) (by omega) rfl rfl rfl (hO3.out.kept (bel_alloc (Below.refl _ _) _)) rfl (by rw [hnew.out]; exact Blk.new _ _ _) (by intro u hu; simp only [List.mem_cons, List.not_mem_nil, or_false] at hu; subst hu; rfl) (by omega) ?_); intro v5 w5 ho5 ht5 hob5)
      go_roundw
      case rel =>
        refine ⟨m + 1, updN bx m bb, updN rb m rr, by omega, by go_num, Lib.hid ((hM3.out.kept (bel_alloc (Below.refl _ _) _)).tch ht5 (fun s hs => ⟨fun e => ((hob3.out _ e).2.2 s hs).1 rfl, fun e => ((hob3.out _ e).2.2 s hs).2 rfl⟩)), Lib.hid ho5, Lib.hid (fun b hb6 => ?_), Lib.hid (((tch_of (bel_alloc hbb.out _) (fun _ => False)).trans2 ht5 (fun k hk e => by have := (hob3.out _ e).1; omega)).below (Nat.le_refl _) (fun _ _ => id))⟩
        rcases hob5 with e | e
        · rw [e] at hb6
          obtain ⟨q1, q2, q3⟩ := hob3.out b hb6
          exact ⟨q1, q3⟩
        · rw [e] at hb6
          simp at hb6
          refine ⟨by omega, fun s hs => ?_⟩
          have := hM3.out.lt s hs
          omega
      case measure => simp [intOf]; omega
    · obtain rfl : m = n := by omega
      have hok : (ofSys m bx rb L).Ok := ofSys_ok (by omega) hM.out.ne
      have cN := new_any (ofSys m bx rb L) dn A1 c1 wr hok hq3 hM.out.st
      have hT : ∀ k, (ofSys m bx rb L).T k → w.heap.size ≤ k ∧ k < wr.heap.size := fun k ⟨s, hs, e⟩ => by
        have := hM.out.lt s hs
        rcases e with e | e <;> omega
      replace hT := Lib.hid hT
      replace hok := Lib.hid hok
      replace cN := Lib.hid cN
      clear hq3
      go_wp2_with fail
      refine cN.out.mono ?_
      rintro e2 w2 ⟨B, rfl, hMA, hB, hb2⟩
      replace hMA := Lib.hid hMA
      go_wp2_with fail
      go_ret
      exact ⟨B, bx, rb, rfl, hok.out, fun k hk => by have := hT.out k hk; omega, hMA.out.mono (fun k _ h => by omega), by omega, bel_eld hb.out hb2⟩
end Go.Proofs.Ytecaegjonhimmaa
-- MgR
namespace Go.Proofs.Ytecaegjonhimmaa
set_option linter.unusedVariables false
set_option linter.unusedSimpArgs false
open Go.RowKit Go.Shelf

section
variable {S : Sys} {dn : Bool} {hd0 hd hd' : Nat → Nat} {l l' : List (Nat → Int)} {b b' : Nat}
theorem less_total {H : Hs} {s t : Nat} (h1 : lessB dn H s t = false) (h2 : lessB dn H t s = false) : s = t := by
  unfold lessB at *
  by_cases e : H.it s 0 = H.it t 0
  · rw [if_pos e] at h1
    rw [if_pos e.symm] at h2
    have g1 := of_decide_eq_false h1
    have g2 := of_decide_eq_false h2
    omega
  · rw [if_neg e] at h1
    rw [if_neg (fun h => e h.symm)] at h2
    by_cases g : H.it s 0 < H.it t 0
    · have g' : ¬ H.it t 0 < H.it s 0 := by omega
      rw [decide_eq_true g] at h1
      rw [decide_eq_false g'] at h2
      cases dn <;> simp at h1 h2
    · have g' : H.it t 0 < H.it s 0 := by omega
      rw [decide_eq_false g] at h1
      rw [decide_eq_true g'] at h2
      cases dn <;> simp at h1 h2
theorem Best.one (h : Best S dn hd b) (h' : Best S dn hd b') : b = b' :=
  less_total (h'.2.2 b h.1 h.2.1) (h.2.2 b' h'.1 h'.2.1)
/-- all sources are done -/
def Done (S : Sys) (hd : Nat → Nat) : Prop := ∀ s, s < S.K → S.len s ≤ hd s
theorem Best.not_done (h : Best S dn hd b) (hd' : Done S hd) : False := by
  have := hd' b h.1
  have := h.2.1
  omega
theorem Runs.det (h : Runs S dn hd0 l hd) : ∀ {l' hd'}, Runs S dn hd0 l' hd' → l.length = l'.length → l = l' ∧ hd = hd' := by
  induction h with
  | nil =>
    intro l' hd' h' e
    cases h' with
    | nil => exact ⟨rfl, rfl⟩
    | snoc h1 h2 => simp at e
  | snoc h1 h2 ih =>
    intro l' hd' h' e
    cases h' with
    | nil => simp at e
    | snoc h3 h4 =>
      obtain ⟨rfl, rfl⟩ := ih h3 (by simpa using e)
      obtain rfl := h2.one h4
      exact ⟨rfl, rfl⟩
/-- a run's first part, and the next one -/
theorem Runs.part (h : Runs S dn hd0 l hd) : ∀ k, k ≤ l.length → ∃ hk, Runs S dn hd0 (l.take k) hk ∧ (k < l.length → ∃ b, Best S dn hk b) := by
  induction h with
  | nil => intro k hk; simp at hk; subst hk; exact ⟨_, by simpa using Runs.nil, fun h => by simp at h⟩
  | @snoc l hd b h1 h2 ih =>
    intro k hk
    rw [List.length_append] at hk
    simp at hk
    by_cases e : k = l.length + 1
    · subst e
      refine ⟨updN hd b (hd b + 1), ?_, fun h => by simp at h⟩
      rw [List.take_of_length_le (by simp)]
      exact h1.snoc h2
    · obtain ⟨hk', r, nx⟩ := ih k (by omega)
      refine ⟨hk', by rw [List.take_append_of_le_length (by omega)]; exact r, fun _ => ?_⟩
      by_cases e2 : k = l.length
      · subst e2
        rw [List.take_length] at r
        obtain ⟨_, rfl⟩ := r.det h1 rfl
        exact ⟨b, h2⟩
      · exact nx (by omega)
theorem Runs.max (h : Runs S dn hd0 l hd) (hD : Done S hd) (h' : Runs S dn hd0 l' hd') : l'.length ≤ l.length := by
  rcases Nat.lt_or_ge l.length l'.length with hl | hl
  · obtain ⟨hk, r, nx⟩ := h'.part l.length (by omega)
    obtain ⟨b, hb⟩ := nx hl
    obtain ⟨_, rfl⟩ := h.det r (by rw [List.length_take]; omega)
    exact absurd hD hb.not_done
  · exact hl
theorem Runs.take (h : Runs S dn hd0 l hd) (h' : Runs S dn hd0 l' hd') (hl : l'.length ≤ l.length) : l' = l.take l'.length := by
  obtain ⟨hk, r, _⟩ := h.part l'.length hl
  exact (h'.det r (by rw [List.length_take]; omega)).1
theorem Runs.whole (h : Runs S dn hd0 l hd) (hD : Done S hd) (h' : Runs S dn hd0 l' hd') (hD' : Done S hd') : l = l' ∧ hd = hd' :=
  h.det h' (Nat.le_antisymm (h'.max hD' h) (h.max hD h'))
theorem Runs.none (h : Runs S dn hd0 l hd) (hD : Done S hd0) : l = [] := by
  have := Runs.max (Runs.nil : Runs S dn hd0 [] hd0) hD h
  exact List.eq_nil_of_length_eq_zero (by simpa using this)
/-- a run, and one that goes on from its end -/
theorem Runs.join (h : Runs S dn hd0 l hd) (h' : Runs S dn hd l' hd') : Runs S dn hd0 (l ++ l') hd' := by
  induction h' with
  | nil => simpa using h
  | snoc h1 h2 ih => rw [← List.append_assoc]; exact ih.snoc h2
end
end Go.Proofs.Ytecaegjonhimmaa
-- MgS
namespace Go.Proofs.Ytecaegjonhimmaa
set_option linter.unusedVariables false
set_option linter.unusedSimpArgs false
open Go.RowKit Go.Shelf

/-- a row of n numbers -/
def NRow (w : World) (g n : Nat) (p : Nat → Nat) : Prop := Blk w g 3 (Array.ofFn (fun s : Fin n => (.int .i64 (p s) : Value)))
section
variable {w w' : World} {g n : Nat} {p : Nat → Nat}
theorem NRow.cell (h : NRow w g n p) {s : Nat} (hs : s < n) : w.cell? ⟨g, s, none⟩ = some (.int .i64 (p s)) := by
  have := Blk.cell h s
  rw [this]
  simp [hs]
theorem NRow.frozen (h : NRow w g n p) (s : Nat) : w.frozen? ⟨g, s, none⟩ = false := Blk.frozen h s
theorem NRow.lt (h : NRow w g n p) : g < w.heap.size := Blk.lt h
theorem NRow.kept (h : NRow w g n p) (hb : Below w.heap.size w w') : NRow w' g n p := Blk.kept h hb
theorem NRow.tch {S : Nat → Prop} (h : NRow w g n p) (ht : Tch S w w') (hs : ¬ S g) : NRow w' g n p := Blk.tch h ht hs
theorem NRow.set (h : NRow w g n p) (s v : Nat) : NRow (w.setCell ⟨g, s, none⟩ (.int .i64 v)) g n (updN p s v) := by
  refine Blk.set' h s _ ?_
  apply Array.ext
  · simp
  · intro i h1 h2
    have hi : i < n := by simpa using h2
    rw [Array.getElem_ofFn]
    by_cases e : s = i
    · subst e
      rw [Array.getElem_setIfInBounds_self]
      unfold updN
      rw [if_pos rfl]
    · rw [Array.getElem_setIfInBounds_ne (by simpa using hi) e, Array.getElem_ofFn]
      unfold updN
      rw [if_neg (fun h => e h.symm)]
end
theorem info_i64 : (Try.prog.info? 3).map (fun i => (i.zero, i.size, i.bytes)) = some (some (.int .i64 0), 1, 8) := by kernel_rfl
theorem run_mkI (W : World) (n : Nat) (hn : n ≤ 1000000) : (Instr.makeSlice 49 (.int .i64 n) (.int .i64 n)).run Try.prog W = .ok (.slice (some ⟨W.heap.size, 0, none⟩) n n) (W.alloc (.cells (Array.ofFn (fun s : Fin n => (.int .i64 ((fun _ => 0 : Nat → Nat) s) : Value))) 3)) := by
  obtain ⟨i0, hi0, hz0, hz1, hz2⟩ := info_parts info_i64
  have h := run_makeSlice (P := Try.prog) (w := W) 49 3 i0 _ Try.underlying49 hi0 hz0 .i64 .i64 n n (by omega) (by omega) (by rw [hz1]; simp; omega) (by rw [hz2]; omega) (by omega)
  rw [h, hz1]
  have e : madeCells (Value.int .i64 0).cells ((n : Int).toNat * 1) = Array.ofFn (fun s : Fin n => (.int .i64 ((fun _ => 0 : Nat → Nat) s) : Value)) := by
    unfold madeCells
    apply Array.ext
    · simp
    · intro i h1 h2
      simp [Value.cells, Nat.mod_one]
  rw [e]
  rfl
def sumN : Nat → (Nat → Nat) → Nat
  | 0, _ => 0
  | n + 1, p => sumN n p + p n
theorem sumN_far {p : Nat → Nat} {b v : Nat} : ∀ {n}, n ≤ b → sumN n (updN p b v) = sumN n p
  | 0, _ => rfl
  | n + 1, h => by
    unfold sumN
    rw [sumN_far (by omega)]
    unfold updN
    rw [if_neg (by omega)]
theorem sumN_upd {p : Nat → Nat} {b : Nat} : ∀ {n}, b < n → sumN n (updN p b (p b + 1)) = sumN n p + 1
  | 0, h => by omega
  | n + 1, h => by
    unfold sumN
    by_cases e : b = n
    · subst e
      rw [sumN_far (Nat.le_refl _)]
      unfold updN
      rw [if_pos rfl]; omega
    · rw [sumN_upd (by omega)]
      unfold updN
      rw [if_neg (fun h => e h.symm)]; omega
theorem sumN_le {p q : Nat → Nat} : ∀ {n}, (∀ s, s < n → p s ≤ q s) → sumN n p ≤ sumN n q
  | 0, _ => Nat.le_refl _
  | n + 1, h => by
    unfold sumN
    have := sumN_le (n := n) (p := p) (q := q) (fun s hs => h s (by omega))
    have := h n (by omega)
    omega
theorem sumN_lt {p q : Nat → Nat} {b : Nat} : ∀ {n}, (∀ s, s < n → p s ≤ q s) → b < n → p b < q b → sumN n p < sumN n q
  | 0, _, h, _ => by omega
  | n + 1, h, hb, hl => by
    unfold sumN
    have h1 := h n (by omega)
    by_cases e : b = n
    · subst e
      have := sumN_le (n := b) (p := p) (q := q) (fun s hs => h s (by omega))
      omega
    · have := sumN_lt (n := n) (p := p) (q := q) (fun s hs => h s (by omega)) (by omega) hl
      omega
theorem sumN_const {q : Nat → Nat} {c : Nat} : ∀ {n}, (∀ s, s < n → q s ≤ c) → sumN n q ≤ n * c
  | 0, _ => by simp [sumN]
  | n + 1, h => by
    unfold sumN
    have := sumN_const (n := n) (q := q) (c := c) (fun s hs => h s (by omega))
    have := h n (by omega)
    rw [Nat.add_mul]; omega
theorem Runs.le {S : Sys} {dn : Bool} {l : List (Nat → Int)} {hd : Nat → Nat} (h : Runs S dn (fun _ => 0) l hd) : (∀ s, s < S.K → hd s ≤ S.len s) ∧ sumN S.K hd = l.length := by
  induction h with
  | nil =>
    refine ⟨fun s _ => Nat.zero_le _, ?_⟩
    have : ∀ n, sumN n (fun _ => 0) = 0 := fun n => by
      induction n with
      | zero => rfl
      | succ n ih => unfold sumN; omega
    simpa using this _
  | @snoc l hd b h1 h2 ih =>
    refine ⟨fun s hs => ?_, ?_⟩
    · unfold updN
      split
      · rename_i e; subst e; exact h2.2.1
      · exact ih.1 s hs
    · rw [sumN_upd h2.1, ih.2]; simp
theorem Runs.room {S : Sys} {dn : Bool} {l : List (Nat → Int)} {hd : Nat → Nat} {b : Nat} (h : Runs S dn (fun _ => 0) l hd) (hb : b < S.K) (hl : hd b < S.len b) : l.length < sumN S.K S.len := by
  rw [← h.le.2]
  exact sumN_lt h.le.1 hb hl
end Go.Proofs.Ytecaegjonhimmaa
-- MgT
namespace Go.Proofs.Ytecaegjonhimmaa
set_option linter.unusedVariables false
set_option linter.unusedSimpArgs false
open Go.RowKit Go.Shelf

/-- the best of the first m heads -/
def BestTo (S : Sys) (dn : Bool) (p : Nat → Nat) (m b : Nat) : Prop := b < m ∧ p b < S.len b ∧ ∀ t, t < m → p t < S.len t → lessB dn (S.hs p (.slice none 0 0)) t b = false
/-- what the scan holds -/
def ScanV (S : Sys) (dn : Bool) (p : Nat → Nat) (m : Nat) (z : Int) : Prop := (z = -1 ∧ ∀ s, s < m → S.len s ≤ p s) ∨ ∃ b : Nat, z = b ∧ BestTo S dn p m b
section
variable {S : Sys} {dn : Bool} {p : Nat → Nat} {m b : Nat} {z : Int}
theorem ScanV.none : ScanV S dn p 0 (-1) := Or.inl ⟨rfl, fun s h => by omega⟩
theorem less_irr {H : Hs} {s : Nat} : lessB dn H s s = false := by
  cases hr : lessB dn H s s with
  | false => rfl
  | true => rw [less_asym hr] at hr; cases hr
theorem ScanV.skip (h : ScanV S dn p m z) (hs : S.len m ≤ p m) : ScanV S dn p (m + 1) z := by
  rcases h with ⟨h1, h2⟩ | ⟨b, h1, h2, h3, h4⟩
  · exact Or.inl ⟨h1, fun s h => by
      by_cases e : s = m
      · subst e; exact hs
      · exact h2 s (by omega)⟩
  · exact Or.inr ⟨b, h1, by omega, h3, fun t ht hl => by
      by_cases e : t = m
      · subst e; omega
      · exact h4 t (by omega) hl⟩
theorem ScanV.first (h : ScanV S dn p m (-1)) (hs : p m < S.len m) : ScanV S dn p (m + 1) m := by
  rcases h with ⟨_, h2⟩ | ⟨b, h1, _⟩
  · exact Or.inr ⟨m, rfl, by omega, hs, fun t ht hl => by
      by_cases e : t = m
      · subst e; exact less_irr
      · have := h2 t (by omega); omega⟩
  · omega
theorem BestTo.swap (h : BestTo S dn p m b) (hs : p m < S.len m) (hl : lessB dn (S.hs p (.slice none 0 0)) m b = true) : BestTo S dn p (m + 1) m := ⟨by omega, hs, fun t ht hlt => by
  by_cases e : t = m
  · subst e; exact less_irr
  · exact less_ntrans (h.2.2 t (by omega) hlt) (less_asym hl)⟩
theorem BestTo.keep (h : BestTo S dn p m b) (hl : lessB dn (S.hs p (.slice none 0 0)) m b = false) : BestTo S dn p (m + 1) b := ⟨by have := h.1; omega, h.2.1, fun t ht hlt => by
  by_cases e : t = m
  · subst e; exact hl
  · exact h.2.2 t (by omega) hlt⟩
theorem less_up (hb : b < m) : lessB false (S.hs p (.slice none 0 0)) m b = decide (S.X m (p m) 0 < S.X b (p b) 0) := by
  unfold lessB
  show (if S.X m (p m) 0 = S.X b (p b) 0 then decide (m < b) else (decide (S.X m (p m) 0 < S.X b (p b) 0) != false)) = _
  by_cases e : S.X m (p m) 0 = S.X b (p b) 0
  · rw [if_pos e, decide_eq_false (by omega), decide_eq_false (by omega)]
  · rw [if_neg e]; simp
theorem less_dn (hb : b < m) : lessB true (S.hs p (.slice none 0 0)) m b = decide (S.X b (p b) 0 < S.X m (p m) 0) := by
  unfold lessB
  show (if S.X m (p m) 0 = S.X b (p b) 0 then decide (m < b) else (decide (S.X m (p m) 0 < S.X b (p b) 0) != true)) = _
  by_cases e : S.X m (p m) 0 = S.X b (p b) 0
  · rw [if_pos e, decide_eq_false (by omega), decide_eq_false (by omega)]
  · rw [if_neg e]
    by_cases g : S.X m (p m) 0 < S.X b (p b) 0
    · rw [decide_eq_true g, decide_eq_false (by omega)]; rfl
    · rw [decide_eq_false g, decide_eq_true (by omega)]; rfl
end
end Go.Proofs.Ytecaegjonhimmaa
