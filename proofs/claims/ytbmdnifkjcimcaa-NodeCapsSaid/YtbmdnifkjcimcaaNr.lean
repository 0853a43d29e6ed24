/-
  Own rows of slices of bytes, two side by side; what an append leaves as it was.
-/
import Derived.Test.YtbmdnifkjcimcaaNq
import Derived.Test.YtbmdnifkjcimcaaNl
import Derived.Test.YtbmdnifkjcimcaaAppB
import Derived.Maps.AppendAt
namespace Go.Proofs.Ytbmdnifkjcimcaa
set_option linter.unusedVariables false
set_option linter.unusedSimpArgs false
open Go.RowKit

theorem run_appV2 {w : World} {base t e by_ : Nat} {v z x : Value} {n g c : Nat} {f : Nat → Value} (ty : TypeId) (hu : Try.prog.underlying t = some (.slice e)) (hi5 : (Try.prog.info? e).map (fun i => (i.zero, i.size, i.bytes)) = some (some z, 1, by_)) (hz : z.cells.size = 1) (hby : by_ ≤ 64)
    (ho : OwnV w base e v n f) (hc : w.cell? ⟨g, 0, none⟩ = some x) (hx : x = f n) (h1 : x.oneCell' = true) (h : n ≤ 1000000) (hbase : base ≤ w.heap.size) :
    ∃ v' w', (Builtin.append_ #[t, t] ty #[v, .slice (some ⟨g, 0, none⟩) 1 c]).run Try.prog w = .ok v' w' ∧ OwnV w' base e v' (n + 1) f ∧ w.grownBy w' v.ownBlock ∧ (v'.ownBlock = v.ownBlock ∨ v'.ownBlock = some w.heap.size) := by
  obtain ⟨i0, hi0, hz0, hz1, hz2⟩ := info_parts hi5
  have hb : (n + 1) * by_ ≤ 140737488355328 := Nat.le_trans (Nat.mul_le_mul (show n + 1 ≤ 1000001 by omega) hby) (by decide)
  obtain ⟨v', w', hr, h2, h3, _, h4⟩ := run_append_own_at (P := Try.prog) (w := w) base t ty e i0 _ 1 by_ hu hi0 hz0 hz1 hz2 hz (by omega) v n _ ho ⟨g, 0, none⟩ 1 c [x] rfl (olds_one hc) (fun u hu => by rw [List.mem_singleton] at hu; rw [hu]; exact h1) (by unfold maxLen; omega) hb hbase
  refine ⟨v', w', hr, ?_, h3, h4⟩
  unfold OwnV
  rw [List.range_succ, List.map_append, List.map_singleton, ← hx]
  exact h2
theorem step_appV2 {ops : Array Oper} {o : Oper} {a : Act} {w : World} {Q : Exit → Act → World → Prop} {K : Act → World → Prop} {E : Prop} (hgd : o.guard = none) (s y : Operand) {t e by_ : Nat} {z x : Value} (hu : Try.prog.underlying t = some (.slice e)) (hi5 : (Try.prog.info? e).map (fun i => (i.zero, i.size, i.bytes)) = some (some z, 1, by_)) (hz : z.cells.size = 1) (hby : by_ ≤ 64)
    (ho : o.op = .call { callee := .builtin .append, args := #[s, y], argTypes := #[t, t] })
    {base : Nat} {v : Value} {n g c : Nat} {f : Nat → Value} (hs : a.eval s = v) (hy : a.eval y = .slice (some ⟨g, 0, none⟩) 1 c) (hO : OwnV w base e v n f) (hc : w.cell? ⟨g, 0, none⟩ = some x) (hx : x = f n) (h1 : x.oneCell' = true) (h : n ≤ 1000000) (hbase : base ≤ w.heap.size)
    (hK : ∀ v' w', OwnV w' base e v' (n + 1) f → w.grownBy w' v.ownBlock → (v'.ownBlock = v.ownBlock ∨ v'.ownBlock = some w.heap.size) → K (a.put o.dst v') w') :
    if Region.wanted o (yielded ops a.tmps) = true then Oper.wp Try.prog o a w K Q else E := by
  have hw : Region.wanted o (yielded ops a.tmps) = true := by simp [Region.wanted, hgd]
  rw [if_pos hw]
  obtain ⟨v', w', hr, h2, h3, h4⟩ := run_appV2 (c := c) o.type hu hi5 hz hby hO hc hx h1 h hbase
  exact Lib.wp_append_run w s y _ _ ho _ _ hs hy v' w' hr (hK v' w' h2 h3 h4)

theorem wpList_appV2 {ops : Array Oper} {rest : List Oper} {o : Oper} {a : Act} {w : World} {Q : Exit → Act → World → Prop} (hgd : o.guard = none) (s y : Operand) {t e by_ : Nat} {z x : Value} (hu : Try.prog.underlying t = some (.slice e)) (hi5 : (Try.prog.info? e).map (fun i => (i.zero, i.size, i.bytes)) = some (some z, 1, by_)) (hz : z.cells.size = 1) (hby : by_ ≤ 64)
    (ho : o.op = .call { callee := .builtin .append, args := #[s, y], argTypes := #[t, t] })
    {base : Nat} {v : Value} {n g c : Nat} {f : Nat → Value} (hs : a.eval s = v) (hy : a.eval y = .slice (some ⟨g, 0, none⟩) 1 c) (hO : OwnV w base e v n f) (hc : w.cell? ⟨g, 0, none⟩ = some x) (hx : x = f n) (h1 : x.oneCell' = true) (h : n ≤ 1000000) (hbase : base ≤ w.heap.size)
    (hK : ∀ v' w', OwnV w' base e v' (n + 1) f → w.grownBy w' v.ownBlock → (v'.ownBlock = v.ownBlock ∨ v'.ownBlock = some w.heap.size) → wpList Try.prog ops Q rest (a.put o.dst v') w') : wpList Try.prog ops Q (o :: rest) a w := by
  obtain ⟨v', w', hr, h2, h3, h4⟩ := run_appV2 (c := c) o.type hu hi5 hz hby hO hc hx h1 h hbase
  exact Lib.wpList_append_run w hgd s y _ _ ho _ _ hs hy v' w' hr (hK v' w' h2 h3 h4)

/-- all blocks of bytes are as they were -/
def KB (w w' : World) : Prop := ∀ (b : Nat) (cur : Array Value) (fz : Nat × Nat), w.heap[b]? = some (.cells cur 5 fz) → w'.heap[b]? = some (.cells cur 5 fz)
theorem KB.trans {a b c : World} (h : KB a b) (k : KB b c) : KB a c := fun g cur fz e => k g cur fz (h g cur fz e)
theorem KB.below {w w' : World} (h : Below w.heap.size w w') : KB w w' := fun b cur fz e => by
  have hl : b < w.heap.size := (Array.getElem?_eq_some_iff.1 e).1
  exact (h.block b hl).trans e
theorem KB.set {w : World} {p : Addr} {t : TypeId} {cs : Array Value} (h : Blk w p.block t cs) (ht : t ≠ 5) (u : Value) : KB w (w.setCell p u) := fun b cur fz e => by
  have hb : b ≠ p.block := by
    rintro rfl
    unfold Blk at h
    rw [h] at e
    injection e with e
    injection e with _ e2
    exact ht e2
  exact (Below.heap_setCell w p u b hb).trans e
theorem KB.grown {w w' : World} {base : Nat} {e : TypeId} {v : Value} {n : Nat} {f : Nat → Value} (ho : OwnV w base e v n f) (he : e ≠ 5) (hg : w.grownBy w' v.ownBlock) : KB w w' := fun b cur fz h => by
  have hl : b < w.heap.size := (Array.getElem?_eq_some_iff.1 h).1
  refine (hg.block b hl ?_).trans h
  obtain ⟨_, h2⟩ := ho
  rcases h2 with ⟨rfl, _⟩ | ⟨g, cap, cur', rfl, _, hgg, _⟩
  · simp [Value.ownBlock]
  · simp only [Value.ownBlock]
    intro e'
    injection e' with e'
    subst e'
    rw [h] at hgg
    injection hgg with e1
    injection e1 with _ e2
    exact he e2.symm
theorem OwnB.kb {w w' : World} {base : Nat} {u : Value} {k : Nat} {y : Nat → Int} (h : OwnB w base u k y) (hk : KB w w') : OwnB w' base u k y := by
  obtain ⟨h1, h2⟩ := h
  refine ⟨h1, ?_⟩
  rcases h2 with h2 | ⟨g, cap, cur, e1, hg, hh, rest⟩
  · exact Or.inl h2
  · exact Or.inr ⟨g, cap, cur, e1, hg, hk g cur _ hh, rest⟩
theorem OwnV.own_ge {w : World} {base : Nat} {e : TypeId} {v : Value} {n : Nat} {f : Nat → Value} (h : OwnV w base e v n f) {q : Nat} (hq : v.ownBlock = some q) : base ≤ q ∧ q < w.heap.size := h.lt q hq
def updF (U : Nat → Value) (m : Nat) (x : Value) (i : Nat) : Value := if i = m then x else U i
theorem updF_self (U : Nat → Value) (m : Nat) (x : Value) : x = updF U m x m := by simp [updF]
theorem OwnV.updF {w : World} {base : Nat} {e : TypeId} {v : Value} {n : Nat} {f : Nat → Value} (h : OwnV w base e v n f) (x : Value) : OwnV w base e v n (updF f n x) := h.congr (fun i hi => by unfold Proofs.Ytbmdnifkjcimcaa.updF; rw [if_neg (by omega)])
/-- the blocks of w from B on are as they were -/
def Above (B : Nat) (w X : World) : Prop := w.heap.size ≤ X.heap.size ∧ ∀ g, B ≤ g → g < w.heap.size → X.heap[g]? = w.heap[g]?
theorem Above.refl (B : Nat) (w : World) : Above B w w := ⟨Nat.le_refl _, fun _ _ _ => rfl⟩
theorem Above.mono {B B' : Nat} {w X : World} (h : Above B w X) (hb : B ≤ B') : Above B' w X := ⟨h.1, fun g h1 h2 => h.2 g (by omega) h2⟩
theorem Above.trans {B : Nat} {w X Y : World} (h : Above B w X) (k : Above B X Y) : Above B w Y := ⟨Nat.le_trans h.1 k.1, fun g h1 h2 => (k.2 g h1 (by have := h.1; omega)).trans (h.2 g h1 h2)⟩
theorem Above.below {B : Nat} {w X : World} (h : Below w.heap.size w X) : Above B w X := ⟨h.size, fun g _ h2 => h.block g h2⟩
theorem Above.set {B : Nat} {w X : World} (h : Above B w X) {p : Addr} (hp : p.block < B) (u : Value) : Above B w (X.setCell p u) := ⟨by simpa using h.1, fun g h1 h2 => (Below.heap_setCell X p u g (by omega)).trans (h.2 g h1 h2)⟩
theorem OwnV.above {w X : World} {base : Nat} {e : TypeId} {v : Value} {n : Nat} {f : Nat → Value} (h : OwnV w base e v n f) (k : Above base w X) : OwnV X base e v n f := by
  obtain ⟨h1, h2⟩ := h
  refine ⟨h1, ?_⟩
  rcases h2 with h2 | ⟨g, cap, cur, e1, hg, hh, rest⟩
  · exact Or.inl h2
  · exact Or.inr ⟨g, cap, cur, e1, hg, (k.2 g hg (Array.getElem?_eq_some_iff.1 hh).1).trans hh, rest⟩
theorem OwnB.above {w X : World} {base : Nat} {v : Value} {n : Nat} {d : Nat → Int} (h : OwnB w base v n d) (k : Above base w X) : OwnB X base v n d := by
  obtain ⟨h1, h2⟩ := h
  refine ⟨h1, ?_⟩
  rcases h2 with h2 | ⟨g, cap, cur, e1, hg, hh, rest⟩
  · exact Or.inl h2
  · exact Or.inr ⟨g, cap, cur, e1, hg, (k.2 g hg (Array.getElem?_eq_some_iff.1 hh).1).trans hh, rest⟩
/-- two own rows of slices of bytes, apart -/
def Two (W : World) (base : Nat) (a : Value) (m k : Nat) (K : Nat → Nat → Int) (b : Value) (m' k' : Nat) (K' : Nat → Nat → Int) : Prop :=
  ∃ U U', OwnV W base 29 a m U ∧ (∀ i, i < m → OwnB W base (U i) k (K i)) ∧ OwnV W base 29 b m' U' ∧ (∀ i, i < m' → OwnB W base (U' i) k' (K' i)) ∧ ∀ q, a.ownBlock = some q → b.ownBlock ≠ some q
theorem Two.nil (W : World) (base k k' : Nat) (K K' : Nat → Nat → Int) : Two W base (.slice none 0 0) 0 k K (.slice none 0 0) 0 k' K' :=
  ⟨fun _ => .bool false, fun _ => .bool false, OwnV.nil _ _ _ _, fun i hi => by omega, OwnV.nil _ _ _ _, fun i hi => by omega, fun q h => by simp [Value.ownBlock] at h⟩
theorem Two.swap {W : World} {base : Nat} {a b : Value} {m k m' k' : Nat} {K K' : Nat → Nat → Int} (h : Two W base a m k K b m' k' K') : Two W base b m' k' K' a m k K := by
  obtain ⟨U, U', h1, h2, h3, h4, h5⟩ := h
  exact ⟨U', U, h3, h4, h1, h2, fun q e1 e2 => h5 q e2 e1⟩
theorem KB.refl (w : World) : KB w w := fun _ _ _ e => e
/-- one turn: the first row is longer by one -/
theorem Two.next {Wd w8 w1 : World} {base g n0 j : Nat} {x s a a' b : Value} {U U' : Nat → Value} {m k m' k' : Nat} {K K' : Nat → Nat → Int} {tg tn : TypeId} {cg cn : Array Value}
    (h1 : OwnV Wd base 29 a m U) (h2 : ∀ i, i < m → OwnB Wd base (U i) k (K i)) (h3 : OwnV Wd base 29 b m' U') (h4 : ∀ i, i < m' → OwnB Wd base (U' i) k' (K' i)) (h5 : ∀ q, a.ownBlock = some q → b.ownBlock ≠ some q)
    (hb8 : Below Wd.heap.size Wd w8) (hx : OwnB w8 Wd.heap.size x k (K m)) (hbase : base ≤ Wd.heap.size) (hg : Blk w8 g tg cg) (htg : tg ≠ 5) (hgb : g < base)
    (ho : OwnV w1 base 29 a' (m + 1) (updF U m x)) (hgr : ((w8.setCell ⟨g, 0, none⟩ s).alloc (.cells #[x] 29)).grownBy w1 a.ownBlock) (hor : a'.ownBlock = a.ownBlock ∨ a'.ownBlock = some ((w8.setCell ⟨g, 0, none⟩ s).alloc (.cells #[x] 29)).heap.size)
    (hn : Blk w1 n0 tn cn) (htn : tn ≠ 5) (hnb : n0 < base) (u : Value) : Two (w1.setCell ⟨n0, j, none⟩ u) base a' (m + 1) k K b m' k' K' := by
  have hsz := hb8.size
  have o3 : OwnV ((w8.setCell ⟨g, 0, none⟩ s).alloc (.cells #[x] 29)) base 29 a m U := ((h1.kept hb8).far (p := ⟨g, 0, none⟩) hgb s).kept (bel_alloc (Below.refl _ _) _)
  have p3 : OwnV ((w8.setCell ⟨g, 0, none⟩ s).alloc (.cells #[x] 29)) base 29 b m' U' := ((h3.kept hb8).far (p := ⟨g, 0, none⟩) hgb s).kept (bel_alloc (Below.refl _ _) _)
  have k8 : KB w8 (w1.setCell ⟨n0, j, none⟩ u) := ((KB.set (p := ⟨g, 0, none⟩) hg htg s).trans (KB.below (bel_alloc (Below.refl _ _) _))).trans ((KB.grown o3 (by decide) hgr).trans (KB.set (p := ⟨n0, j, none⟩) hn htn u))
  have k0 : KB Wd (w1.setCell ⟨n0, j, none⟩ u) := (KB.below hb8).trans k8
  refine ⟨updF U m x, U', ho.far (p := ⟨n0, j, none⟩) hnb u, fun i hi => ?_, ?_, fun i hi => (h4 i hi).kb k0, fun q e1 e2 => ?_⟩
  · unfold updF
    by_cases e : i = m
    · subst e; rw [if_pos rfl]; exact OwnB.base (hx.kb k8) hbase
    · rw [if_neg e]; exact (h2 i (by omega)).kb k0
  · have p4 : OwnV w1 base 29 b m' U' := by
      refine World.ownsRow.kept p3 hgr ?_
      cases hb : b.ownBlock with
      | none => exact .inl rfl
      | some q => exact .inr (fun e => h5 q e.symm hb)
    exact p4.far (p := ⟨n0, j, none⟩) hnb u
  · rcases hor with h | h
    · exact h5 q (h ▸ e1) e2
    · rw [h] at e1
      injection e1 with e1
      have := (p3.own_ge e2).2
      omega
/-- rows of slices as they are read -/
theorem rows_is {W : World} {base : Nat} {a : Value} {m k : Nat} {K : Nat → Nat → Int} {U : Nat → Value} (h1 : OwnV W base 29 a m U) (h2 : ∀ i, i < m → OwnB W base (U i) k (K i)) : ∃ A c, a = .slice A m c ∧ m ≤ c ∧ c ≤ maxLen ∧ RsIs W A m (fun _ => k) K := by
  obtain ⟨A, c, rfl, hc, hm, hs⟩ := h1.slis
  have key : ∀ i, ∃ q : Option Addr × Nat, i < m → U i = .slice q.1 k q.2 ∧ k ≤ q.2 ∧ q.2 ≤ maxLen ∧ SlIs W q.1 k (yV (K i)) := fun i => by
    by_cases hi : i < m
    · obtain ⟨A', c', e, e1, e2, e3⟩ := (h2 i hi).byS
      exact ⟨⟨A', c'⟩, fun _ => ⟨e, e1, e2, e3⟩⟩
    · exact ⟨⟨none, 0⟩, fun h => absurd h hi⟩
  obtain ⟨q, hq⟩ := Classical.axiomOfChoice key
  exact ⟨A, c, rfl, hc, hm, fun i => (q i).1, fun i => (q i).2, hs.congr (fun i hi => (hq i hi).1), fun i hi => (hq i hi).2⟩
set_option maxHeartbeats 1000000 in
theorem taker_any (B : Option Addr) (r c : Nat) (w : World) : Calls Try.prog 44 #[.slice B r c] w fun e w' => e = .returned (.func (Fn.func 47) #[] #[.pointer (some ⟨w.heap.size, 0, none⟩)]) ∧ w' = w.alloc (.cells #[.slice B r c] 29) := by
  have hmf : ∀ (fn : Fn) (first cap : Array Value) (w : World), (Instr.makeFunc fn first cap).run Try.prog w = .ok (.func fn first cap) w := fun _ _ _ _ => rfl
  go_enter Try.func44, Try.ntmps44
  go_wp2_with fail
  go_ret
  exact ⟨rfl, rfl⟩
end Go.Proofs.Ytbmdnifkjcimcaa
