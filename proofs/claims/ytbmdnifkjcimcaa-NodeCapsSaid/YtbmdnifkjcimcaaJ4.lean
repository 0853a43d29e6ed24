/-
  Joined: Law SlArg ByArg ByArg2 NdArg.
-/
import Derived.Test.YtbmdnifkjcimcaaBase
import Derived.ProofKit
import Derived.OpenShut
import Derived.Test.YtbmdnifkjcimcaaJ1
import Derived.Deep.Slices
import Derived.Deep.Fields
import Derived.ChangeSame
import Derived.Test.YtbmdnifkjcimcaaJ2
import Derived.Test.YtbmdnifkjcimcaaNa
-- Law
namespace Go.Proofs.Ytbmdnifkjcimcaa
set_option linter.unusedVariables false
set_option linter.unusedSimpArgs false
open Go.ChangeShapes Go.WideShapes Go.ChangeAt Go.RowKit

theorem own0 : ownKnob Try.prog.godebug = none := by kernel_rfl

section
variable {P : Program} {w : World} {r : Reach} {base : Nat} {t u : TypeId} {v : Value} {k : IntKind}
theorem int_ok (ht : P.underlying u = some (.int k)) (h : Cell.okWide P w r base u v) : ∃ n, v = .int k n ∧ k.has n := by
  unfold Cell.okWide at h
  rw [ht] at h
  cases v <;> simp [Cell.ok, ht] at h
  obtain ⟨rfl, h⟩ := h
  exact ⟨_, rfl, h⟩
theorem bool_ok (ht : P.underlying u = some .bool) (h : Cell.okWide P w r base u v) : ∃ b, v = .bool b := by
  unfold Cell.okWide at h
  rw [ht] at h
  cases v <;> simp [Cell.ok, ht] at h
  exact ⟨_, rfl⟩
theorem val_int (ht : P.underlying t = some (.int k)) (h : Value.okWide P w r base t v) : ∃ n, v = .int k n ∧ k.has n := by
  unfold Value.okWide at h
  rw [ht] at h
  exact int_ok ht h
theorem val_bool (ht : P.underlying t = some .bool) (h : Value.okWide P w r base t v) : ∃ b, v = .bool b := by
  unfold Value.okWide at h
  rw [ht] at h
  exact bool_ok ht h
theorem val_cells {ts : List TypeId} (hk : (match P.underlying t with | some (.struct _) => true | some (.array _ _) => true | _ => false) = true) (hts : P.cellTypes P.depth t = some ts) (hn : P.cellsOf t = ts.length) (h : Value.okWide P w r base t v) :
    ∃ cs : List Value, v = .agg cs.toArray ∧ cs.length = ts.length ∧ ∀ (i : Nat) (u : TypeId) (x : Value), ts[i]? = some u → cs[i]? = some x → Cell.okWide P w r base u x := by
  unfold Value.okWide at h
  have h' : ∃ cs, v = .agg cs ∧ cs.size = P.cellsOf t ∧ Row.okWide P w r base t cs := by
    split at h
    · exact h
    · exact h
    · rename_i h1 h2
      revert hk
      split
      · rename_i e; exact fun _ => absurd e (h1 _)
      · rename_i e; exact fun _ => absurd e (h2 _ _)
      · intro hk; cases hk
  obtain ⟨cs, rfl, hsz, ts', hts', _, hc⟩ := h'
  rw [hts] at hts'
  cases hts'
  have hlen : cs.toList.length = ts.length := by simpa [hn] using hsz
  refine ⟨cs.toList, by simp, hlen, fun i u x hu hx => ?_⟩
  have hi : i < ts.length := by
    rcases Nat.lt_or_ge i ts.length with h | h
    · exact h
    · rw [List.getElem?_eq_none h] at hu; cases hu
  obtain ⟨u', hu', hcell⟩ := hc i x (by simpa using hx)
  rw [Nat.mod_eq_of_lt hi, hu] at hu'
  cases hu'
  exact hcell
end

theorem has_u8 {n : Int} (h : IntKind.u8.has n) : 0 ≤ n ∧ n < 256 := by
  simp [IntKind.has, IntKind.min, IntKind.max, IntKind.signed, IntKind.bits] at h; omega
theorem has_u16 {n : Int} (h : IntKind.u16.has n) : 0 ≤ n ∧ n < 65536 := by
  simp [IntKind.has, IntKind.min, IntKind.max, IntKind.signed, IntKind.bits] at h; omega
theorem has_u32 {n : Int} (h : IntKind.u32.has n) : 0 ≤ n ∧ n < 4294967296 := by
  simp [IntKind.has, IntKind.min, IntKind.max, IntKind.signed, IntKind.bits] at h; omega
theorem has_u64 {n : Int} (h : IntKind.u64.has n) : 0 ≤ n ∧ n < 18446744073709551616 := by
  simp [IntKind.has, IntKind.min, IntKind.max, IntKind.signed, IntKind.bits] at h; omega
theorem has_i64 {n : Int} (h : IntKind.i64.has n) : -9223372036854775808 ≤ n ∧ n ≤ 9223372036854775807 := by
  simp [IntKind.has, IntKind.min, IntKind.max, IntKind.signed, IntKind.bits] at h; omega
theorem has_i8 {n : Int} (h : IntKind.i8.has n) : -128 ≤ n ∧ n ≤ 127 := by
  simp [IntKind.has, IntKind.min, IntKind.max, IntKind.signed, IntKind.bits] at h; omega

section
variable {P : Program} {H : Type} {enc : TypeId × Value → H}
theorem trodAll_stays (hl : laidOutB P = true) {W W' : World} (hb : Below W.heap.size W W') : ∀ {ts : List TypeId} {vs : List Value} {ds : List (DataW H)} {ps : List MemPlace},
    (∀ t ∈ ts, P.readableRec t = true ∧ t < P.types.size) → (∀ x ∈ ps, x.block < W.heap.size) →
    DataW.TrodAll enc P W 0 (fun _ => true) true ts vs ds ps → DataW.TrodAll enc P W' 0 (fun b => decide (b < W.heap.size)) true ts vs ds ps
  | [], [], [], _, _, _, h => h
  | t :: ts, v :: vs, d :: ds, ps, ht, hlt, h => by
    obtain ⟨p, q, h1, h2, rfl⟩ := h
    refine ⟨p, q, Below.trod hl (ht t (by simp)).1 (ht t (by simp)).2 h1 hb (fun x hx => hlt x (by simp [hx])), ?_, rfl⟩
    exact trodAll_stays hl hb (fun t' h' => ht t' (by simp [h'])) (fun x hx => hlt x (by simp [hx])) h2
  | [], [], _ :: _, _, _, _, h => h.elim
  | [], _ :: _, _, _, _, _, h => h.elim
  | _ :: _, [], _, _, _, _, h => h.elim
  | _ :: _, _ :: _, [], _, _, _, h => h.elim

theorem trodAll_length {W : World} {b : Nat} {sp : Nat → Bool} {hd : Bool} : ∀ {ts : List TypeId} {vs : List Value} {ds : List (DataW H)} {ps : List MemPlace},
    DataW.TrodAll enc P W b sp hd ts vs ds ps → vs.length = ts.length ∧ ds.length = ts.length
  | [], [], [], _, _ => ⟨rfl, rfl⟩
  | t :: ts, v :: vs, d :: ds, ps, h => by
    obtain ⟨p, q, h1, h2, rfl⟩ := h
    have := trodAll_length h2
    simp [this.1, this.2]
  | [], [], _ :: _, _, h => h.elim
  | [], _ :: _, _, _, h => h.elim
  | _ :: _, [], _, _, h => h.elim
  | _ :: _, _ :: _, [], _, h => h.elim

/-- the row's post, where the call returned true and only made memory -/
theorem law_post {f : Func} {s : ChangeSpec} {W W' : World} {args : Array Value} {ds gs : List (DataW H)} {before : List MemPlace} {T : TypeId}
    (hW : DataW.Whole enc P f.params.toList s.vars false W args.toList ds gs before) (hv : s.vars = []) (hT : f.resultTypes = #[T]) (hB : P.underlying T = some .bool)
    (hs : ∀ l : List (DataW H), l.length = f.params.toList.length → s.fn H l = { results := [.lit (.bool true)], args := l })
    (hl : laidOutB P = true) (hr : (f.params.toList.all fun t => P.readableRec t && decide (t < P.types.size)) = true) (hb : Below W.heap.size W W') :
    s.post enc P f false true false false W args (.bool true) W' := by
  have ht : ∀ t ∈ f.params.toList, P.readableRec t = true ∧ t < P.types.size := fun t h => by
    have := List.all_eq_true.1 hr t h
    simpa using this
  have hW0 := hW
  have hlt := hW.lt
  obtain ⟨p, q, hA, hV, rfl, hfz, hnd⟩ := hW
  rw [hv] at hV
  obtain ⟨rfl, rfl⟩ := trodVars_none hV
  have e := hs (ds ++ []) (by simpa using (trodAll_length hA).2)
  refine ⟨ds, [], p ++ [], [], p, [], hW0, ?_, ?_, ?_, hb.frame _, fun h => by cases h⟩
  · rw [e, hT]
    exact ⟨[], [], shut_bool hB true, rfl, rfl⟩
  · rw [e]
    simp only [List.append_nil]
    exact trodAll_stays hl hb ht (fun x hx => hlt x (by simp [hx])) hA
  · rw [e, hv]
    exact rfl
end
theorem whole_length {H : Type} {enc : TypeId × Value → H} {P : Program} {ts : List TypeId} {vars : List String} {ap : Bool} {W : World} {vs : List Value} {ds gs : List (DataW H)} {ps : List MemPlace}
    (h : DataW.Whole enc P ts vars ap W vs ds gs ps) : vs.length = ts.length := by
  obtain ⟨p, q, hA, _⟩ := h
  exact (trodAll_length hA).1
theorem list1 {α : Type} {l : List α} (h : l.length = 1) : ∃ c0, l = [c0] := by
  match l, h with
  | [c0], _ => exact ⟨c0, rfl⟩
theorem list2 {α : Type} {l : List α} (h : l.length = 2) : ∃ c0 c1, l = [c0, c1] := by
  match l, h with
  | [c0, c1], _ => exact ⟨c0, c1, rfl⟩
theorem list3 {α : Type} {l : List α} (h : l.length = 3) : ∃ c0 c1 c2, l = [c0, c1, c2] := by
  match l, h with
  | [c0, c1, c2], _ => exact ⟨c0, c1, c2, rfl⟩
theorem list4 {α : Type} {l : List α} (h : l.length = 4) : ∃ c0 c1 c2 c3, l = [c0, c1, c2, c3] := by
  match l, h with
  | [c0, c1, c2, c3], _ => exact ⟨c0, c1, c2, c3, rfl⟩
theorem list5 {α : Type} {l : List α} (h : l.length = 5) : ∃ c0 c1 c2 c3 c4, l = [c0, c1, c2, c3, c4] := by
  match l, h with
  | [c0, c1, c2, c3, c4], _ => exact ⟨c0, c1, c2, c3, c4, rfl⟩
theorem list6 {α : Type} {l : List α} (h : l.length = 6) : ∃ c0 c1 c2 c3 c4 c5, l = [c0, c1, c2, c3, c4, c5] := by
  match l, h with
  | [c0, c1, c2, c3, c4, c5], _ => exact ⟨c0, c1, c2, c3, c4, c5, rfl⟩
theorem list8 {α : Type} {l : List α} (h : l.length = 8) : ∃ c0 c1 c2 c3 c4 c5 c6 c7, l = [c0, c1, c2, c3, c4, c5, c6, c7] := by
  match l, h with
  | [c0, c1, c2, c3, c4, c5, c6, c7], _ => exact ⟨c0, c1, c2, c3, c4, c5, c6, c7, rfl⟩
theorem list9 {α : Type} {l : List α} (h : l.length = 9) : ∃ c0 c1 c2 c3 c4 c5 c6 c7 c8, l = [c0, c1, c2, c3, c4, c5, c6, c7, c8] := by
  match l, h with
  | [c0, c1, c2, c3, c4, c5, c6, c7, c8], _ => exact ⟨c0, c1, c2, c3, c4, c5, c6, c7, c8, rfl⟩
theorem list7 {α : Type} {l : List α} (h : l.length = 7) : ∃ c0 c1 c2 c3 c4 c5 c6, l = [c0, c1, c2, c3, c4, c5, c6] := by
  match l, h with
  | [c0, c1, c2, c3, c4, c5, c6], _ => exact ⟨c0, c1, c2, c3, c4, c5, c6, rfl⟩
theorem list10 {α : Type} {l : List α} (h : l.length = 10) : ∃ c0 c1 c2 c3 c4 c5 c6 c7 c8 c9, l = [c0, c1, c2, c3, c4, c5, c6, c7, c8, c9] := by
  match l, h with
  | [c0, c1, c2, c3, c4, c5, c6, c7, c8, c9], _ => exact ⟨c0, c1, c2, c3, c4, c5, c6, c7, c8, c9, rfl⟩
theorem list11 {α : Type} {l : List α} (h : l.length = 11) : ∃ c0 c1 c2 c3 c4 c5 c6 c7 c8 c9 c10, l = [c0, c1, c2, c3, c4, c5, c6, c7, c8, c9, c10] := by
  match l, h with
  | [c0, c1, c2, c3, c4, c5, c6, c7, c8, c9, c10], _ => exact ⟨c0, c1, c2, c3, c4, c5, c6, c7, c8, c9, c10, rfl⟩
theorem list12 {α : Type} {l : List α} (h : l.length = 12) : ∃ c0 c1 c2 c3 c4 c5 c6 c7 c8 c9 c10 c11, l = [c0, c1, c2, c3, c4, c5, c6, c7, c8, c9, c10, c11] := by
  match l, h with
  | [c0, c1, c2, c3, c4, c5, c6, c7, c8, c9, c10, c11], _ => exact ⟨c0, c1, c2, c3, c4, c5, c6, c7, c8, c9, c10, c11, rfl⟩
theorem list13 {α : Type} {l : List α} (h : l.length = 13) : ∃ c0 c1 c2 c3 c4 c5 c6 c7 c8 c9 c10 c11 c12, l = [c0, c1, c2, c3, c4, c5, c6, c7, c8, c9, c10, c11, c12] := by
  match l, h with
  | [c0, c1, c2, c3, c4, c5, c6, c7, c8, c9, c10, c11, c12], _ => exact ⟨c0, c1, c2, c3, c4, c5, c6, c7, c8, c9, c10, c11, c12, rfl⟩
theorem list14 {α : Type} {l : List α} (h : l.length = 14) : ∃ c0 c1 c2 c3 c4 c5 c6 c7 c8 c9 c10 c11 c12 c13, l = [c0, c1, c2, c3, c4, c5, c6, c7, c8, c9, c10, c11, c12, c13] := by
  match l, h with
  | [c0, c1, c2, c3, c4, c5, c6, c7, c8, c9, c10, c11, c12, c13], _ => exact ⟨c0, c1, c2, c3, c4, c5, c6, c7, c8, c9, c10, c11, c12, c13, rfl⟩
theorem list15 {α : Type} {l : List α} (h : l.length = 15) : ∃ c0 c1 c2 c3 c4 c5 c6 c7 c8 c9 c10 c11 c12 c13 c14, l = [c0, c1, c2, c3, c4, c5, c6, c7, c8, c9, c10, c11, c12, c13, c14] := by
  match l, h with
  | [c0, c1, c2, c3, c4, c5, c6, c7, c8, c9, c10, c11, c12, c13, c14], _ => exact ⟨c0, c1, c2, c3, c4, c5, c6, c7, c8, c9, c10, c11, c12, c13, c14, rfl⟩
theorem list16 {α : Type} {l : List α} (h : l.length = 16) : ∃ c0 c1 c2 c3 c4 c5 c6 c7 c8 c9 c10 c11 c12 c13 c14 c15, l = [c0, c1, c2, c3, c4, c5, c6, c7, c8, c9, c10, c11, c12, c13, c14, c15] := by
  match l, h with
  | [c0, c1, c2, c3, c4, c5, c6, c7, c8, c9, c10, c11, c12, c13, c14, c15], _ => exact ⟨c0, c1, c2, c3, c4, c5, c6, c7, c8, c9, c10, c11, c12, c13, c14, c15, rfl⟩
theorem list17 {α : Type} {l : List α} (h : l.length = 17) : ∃ c0 c1 c2 c3 c4 c5 c6 c7 c8 c9 c10 c11 c12 c13 c14 c15 c16, l = [c0, c1, c2, c3, c4, c5, c6, c7, c8, c9, c10, c11, c12, c13, c14, c15, c16] := by
  match l, h with
  | [c0, c1, c2, c3, c4, c5, c6, c7, c8, c9, c10, c11, c12, c13, c14, c15, c16], _ => exact ⟨c0, c1, c2, c3, c4, c5, c6, c7, c8, c9, c10, c11, c12, c13, c14, c15, c16, rfl⟩
theorem list18 {α : Type} {l : List α} (h : l.length = 18) : ∃ c0 c1 c2 c3 c4 c5 c6 c7 c8 c9 c10 c11 c12 c13 c14 c15 c16 c17, l = [c0, c1, c2, c3, c4, c5, c6, c7, c8, c9, c10, c11, c12, c13, c14, c15, c16, c17] := by
  match l, h with
  | [c0, c1, c2, c3, c4, c5, c6, c7, c8, c9, c10, c11, c12, c13, c14, c15, c16, c17], _ => exact ⟨c0, c1, c2, c3, c4, c5, c6, c7, c8, c9, c10, c11, c12, c13, c14, c15, c16, c17, rfl⟩
theorem list19 {α : Type} {l : List α} (h : l.length = 19) : ∃ c0 c1 c2 c3 c4 c5 c6 c7 c8 c9 c10 c11 c12 c13 c14 c15 c16 c17 c18, l = [c0, c1, c2, c3, c4, c5, c6, c7, c8, c9, c10, c11, c12, c13, c14, c15, c16, c17, c18] := by
  match l, h with
  | [c0, c1, c2, c3, c4, c5, c6, c7, c8, c9, c10, c11, c12, c13, c14, c15, c16, c17, c18], _ => exact ⟨c0, c1, c2, c3, c4, c5, c6, c7, c8, c9, c10, c11, c12, c13, c14, c15, c16, c17, c18, rfl⟩
theorem list20 {α : Type} {l : List α} (h : l.length = 20) : ∃ c0 c1 c2 c3 c4 c5 c6 c7 c8 c9 c10 c11 c12 c13 c14 c15 c16 c17 c18 c19, l = [c0, c1, c2, c3, c4, c5, c6, c7, c8, c9, c10, c11, c12, c13, c14, c15, c16, c17, c18, c19] := by
  match l, h with
  | [c0, c1, c2, c3, c4, c5, c6, c7, c8, c9, c10, c11, c12, c13, c14, c15, c16, c17, c18, c19], _ => exact ⟨c0, c1, c2, c3, c4, c5, c6, c7, c8, c9, c10, c11, c12, c13, c14, c15, c16, c17, c18, c19, rfl⟩
theorem list21 {α : Type} {l : List α} (h : l.length = 21) : ∃ c0 c1 c2 c3 c4 c5 c6 c7 c8 c9 c10 c11 c12 c13 c14 c15 c16 c17 c18 c19 c20, l = [c0, c1, c2, c3, c4, c5, c6, c7, c8, c9, c10, c11, c12, c13, c14, c15, c16, c17, c18, c19, c20] := by
  match l, h with
  | [c0, c1, c2, c3, c4, c5, c6, c7, c8, c9, c10, c11, c12, c13, c14, c15, c16, c17, c18, c19, c20], _ => exact ⟨c0, c1, c2, c3, c4, c5, c6, c7, c8, c9, c10, c11, c12, c13, c14, c15, c16, c17, c18, c19, c20, rfl⟩
theorem list34 {α : Type} {l : List α} (h : l.length = 34) : ∃ c0 c1 c2 c3 c4 c5 c6 c7 c8 c9 c10 c11 c12 c13 c14 c15 c16 c17 c18 c19 c20 c21 c22 c23 c24 c25 c26 c27 c28 c29 c30 c31 c32 c33, l = [c0, c1, c2, c3, c4, c5, c6, c7, c8, c9, c10, c11, c12, c13, c14, c15, c16, c17, c18, c19, c20, c21, c22, c23, c24, c25, c26, c27, c28, c29, c30, c31, c32, c33] := by
  obtain ⟨c0, c1, c2, c3, c4, c5, c6, c7, c8, c9, c10, c11, c12, c13, c14, c15, c16, h1⟩ := list17 (l := l.take 17) (by simp; omega)
  obtain ⟨c17, c18, c19, c20, c21, c22, c23, c24, c25, c26, c27, c28, c29, c30, c31, c32, c33, h2⟩ := list17 (l := l.drop 17) (by simp; omega)
  exact ⟨c0, c1, c2, c3, c4, c5, c6, c7, c8, c9, c10, c11, c12, c13, c14, c15, c16, c17, c18, c19, c20, c21, c22, c23, c24, c25, c26, c27, c28, c29, c30, c31, c32, c33, by rw [← List.take_append_drop 17 l, h1, h2]; rfl⟩
theorem list32 {α : Type} {l : List α} (h : l.length = 32) : ∃ c0 c1 c2 c3 c4 c5 c6 c7 c8 c9 c10 c11 c12 c13 c14 c15 c16 c17 c18 c19 c20 c21 c22 c23 c24 c25 c26 c27 c28 c29 c30 c31, l = [c0, c1, c2, c3, c4, c5, c6, c7, c8, c9, c10, c11, c12, c13, c14, c15, c16, c17, c18, c19, c20, c21, c22, c23, c24, c25, c26, c27, c28, c29, c30, c31] := by
  obtain ⟨c0, c1, c2, c3, c4, c5, c6, c7, c8, c9, c10, c11, c12, c13, c14, c15, h1⟩ := list16 (l := l.take 16) (by simp; omega)
  obtain ⟨c16, c17, c18, c19, c20, c21, c22, c23, c24, c25, c26, c27, c28, c29, c30, c31, h2⟩ := list16 (l := l.drop 16) (by simp; omega)
  exact ⟨c0, c1, c2, c3, c4, c5, c6, c7, c8, c9, c10, c11, c12, c13, c14, c15, c16, c17, c18, c19, c20, c21, c22, c23, c24, c25, c26, c27, c28, c29, c30, c31, by rw [← List.take_append_drop 16 l, h1, h2]; rfl⟩
theorem list33 {α : Type} {l : List α} (h : l.length = 33) : ∃ c0 c1 c2 c3 c4 c5 c6 c7 c8 c9 c10 c11 c12 c13 c14 c15 c16 c17 c18 c19 c20 c21 c22 c23 c24 c25 c26 c27 c28 c29 c30 c31 c32, l = [c0, c1, c2, c3, c4, c5, c6, c7, c8, c9, c10, c11, c12, c13, c14, c15, c16, c17, c18, c19, c20, c21, c22, c23, c24, c25, c26, c27, c28, c29, c30, c31, c32] := by
  obtain ⟨c0, c1, c2, c3, c4, c5, c6, c7, c8, c9, c10, c11, c12, c13, c14, c15, c16, h1⟩ := list17 (l := l.take 17) (by simp; omega)
  obtain ⟨c17, c18, c19, c20, c21, c22, c23, c24, c25, c26, c27, c28, c29, c30, c31, c32, h2⟩ := list16 (l := l.drop 17) (by simp; omega)
  exact ⟨c0, c1, c2, c3, c4, c5, c6, c7, c8, c9, c10, c11, c12, c13, c14, c15, c16, c17, c18, c19, c20, c21, c22, c23, c24, c25, c26, c27, c28, c29, c30, c31, c32, by rw [← List.take_append_drop 17 l, h1, h2]; rfl⟩
theorem list67 {α : Type} {l : List α} (h : l.length = 67) : ∃ c0 c1 c2 c3 c4 c5 c6 c7 c8 c9 c10 c11 c12 c13 c14 c15 c16 c17 c18 c19 c20 c21 c22 c23 c24 c25 c26 c27 c28 c29 c30 c31 c32 c33 c34 c35 c36 c37 c38 c39 c40 c41 c42 c43 c44 c45 c46 c47 c48 c49 c50 c51 c52 c53 c54 c55 c56 c57 c58 c59 c60 c61 c62 c63 c64 c65 c66, l = [c0, c1, c2, c3, c4, c5, c6, c7, c8, c9, c10, c11, c12, c13, c14, c15, c16, c17, c18, c19, c20, c21, c22, c23, c24, c25, c26, c27, c28, c29, c30, c31, c32, c33, c34, c35, c36, c37, c38, c39, c40, c41, c42, c43, c44, c45, c46, c47, c48, c49, c50, c51, c52, c53, c54, c55, c56, c57, c58, c59, c60, c61, c62, c63, c64, c65, c66] := by
  obtain ⟨c0, c1, c2, c3, c4, c5, c6, c7, c8, c9, c10, c11, c12, c13, c14, c15, c16, c17, c18, c19, c20, c21, c22, c23, c24, c25, c26, c27, c28, c29, c30, c31, c32, c33, h1⟩ := list34 (l := l.take 34) (by simp; omega)
  obtain ⟨c34, c35, c36, c37, c38, c39, c40, c41, c42, c43, c44, c45, c46, c47, c48, c49, c50, c51, c52, c53, c54, c55, c56, c57, c58, c59, c60, c61, c62, c63, c64, c65, c66, h2⟩ := list33 (l := l.drop 34) (by simp; omega)
  exact ⟨c0, c1, c2, c3, c4, c5, c6, c7, c8, c9, c10, c11, c12, c13, c14, c15, c16, c17, c18, c19, c20, c21, c22, c23, c24, c25, c26, c27, c28, c29, c30, c31, c32, c33, c34, c35, c36, c37, c38, c39, c40, c41, c42, c43, c44, c45, c46, c47, c48, c49, c50, c51, c52, c53, c54, c55, c56, c57, c58, c59, c60, c61, c62, c63, c64, c65, c66, by rw [← List.take_append_drop 34 l, h1, h2]; rfl⟩
theorem args1 {l : Array Value} (h : l.toList.length = 1) : ∃ c0, l = #[c0] := by
  obtain ⟨l⟩ := l
  obtain ⟨c0, rfl⟩ := list1 (l := l) h
  exact ⟨c0, rfl⟩
theorem args2 {l : Array Value} (h : l.toList.length = 2) : ∃ c0 c1, l = #[c0, c1] := by
  obtain ⟨l⟩ := l
  obtain ⟨c0, c1, rfl⟩ := list2 (l := l) h
  exact ⟨c0, c1, rfl⟩
theorem args3 {l : Array Value} (h : l.toList.length = 3) : ∃ c0 c1 c2, l = #[c0, c1, c2] := by
  obtain ⟨l⟩ := l
  obtain ⟨c0, c1, c2, rfl⟩ := list3 (l := l) h
  exact ⟨c0, c1, c2, rfl⟩
theorem args4 {l : Array Value} (h : l.toList.length = 4) : ∃ c0 c1 c2 c3, l = #[c0, c1, c2, c3] := by
  obtain ⟨l⟩ := l
  obtain ⟨c0, c1, c2, c3, rfl⟩ := list4 (l := l) h
  exact ⟨c0, c1, c2, c3, rfl⟩

end Go.Proofs.Ytbmdnifkjcimcaa
-- SlArg
namespace Go.Proofs.Ytbmdnifkjcimcaa
set_option linter.unusedVariables false
set_option linter.unusedSimpArgs false
open Go.ChangeShapes Go.WideShapes Go.Deep Go.ChangeAt Go.RowKit

section
variable {H : Type} {enc : TypeId × Value → H} {P : Program} {w : World} {base : Nat} {spare : Nat → Bool} {held : Bool}
theorem open_slice_fields {t e : TypeId} {fs : Array Field} {fuel : Nat} {cs : List Value} {x : DataW H × List MemPlace} (ht : P.underlying t = some (.slice e)) (he : P.underlying e = some (.struct fs))
    (hone : oneCellFields P fs = true) (hC : P.cellsOf e = fs.size) (h : DataW.trod enc P w base spare held fuel t cs = some x) :
    (cs = [.slice none 0 0] ∧ x = (.nil, [])) ∨
    ∃ (a : Addr) (len cap m : Nat) (D : Nat → DataW H) (Pl : Nat → List MemPlace), cs = [.slice (some a) len cap] ∧ base ≤ a.block ∧ len ≤ cap ∧ cap ≤ maxLen ∧ m = (if spare a.block then cap else len) ∧
      x = (.slice ((List.range len).map D) ((List.range (m - len)).map fun j => D (len + j)), MemPlace.row a (m * fs.size) ++ (List.range m).flatMap Pl) ∧
      ∀ i, i < m → ∃ (ys : List (DataW H × List MemPlace)) (n : Nat), D i = .agg (ys.map (·.1)) ∧ Pl i = ys.flatMap (·.2) ∧ ys.length = fs.size ∧
        ∀ (j : Nat) (f : Field), fs[j]? = some f → ∃ (v : Value) (y : DataW H × List MemPlace), w.cell? (a.add (i * fs.size + j)) = some v ∧ ys[j]? = some y ∧ DataW.trod enc P w base spare held n f.type [v] = some y := by
  rcases open_slice ht h with h0 | ⟨a, len, cap, m, n, D, Pl, hcs, hb, hl, hm, hmm, hx, hi⟩
  · exact .inl h0
  · refine .inr ⟨a, len, cap, m, D, Pl, hcs, hb, hl, hm, hmm, by rw [hC] at hx; exact hx, fun i him => ?_⟩
    obtain ⟨cs', hc, ht'⟩ := hi i him
    rw [hC] at hc
    obtain ⟨ys, n', hn', hy, hlen, hyl, hf⟩ := DataW.trod_struct he ht'
    obtain ⟨_, hcl, hat⟩ := World.cells?_some hc
    simp only [Prod.mk.injEq] at hy
    refine ⟨ys, n', hy.1, hy.2, hyl, fun j f hj => ?_⟩
    obtain ⟨ho, hk⟩ := hone_of hone j f hj
    have hjl : j < fs.size := (Array.getElem?_eq_some_iff.1 hj).1
    have hcell := hat j hjl
    have hv : cs'[j]? = some (cs'[j]'(by omega)) := List.getElem?_eq_getElem (by omega)
    have h1 := hf j f hj
    rw [ho, hk] at h1
    have hone' : (cs'.drop j).take 1 = [cs'[j]'(by omega)] := by
      rw [List.drop_eq_getElem_cons (by omega)]
      rfl
    rw [hone'] at h1
    have hys : ys[j]? = some (ys[j]'(by omega)) := List.getElem?_eq_getElem (by omega)
    refine ⟨_, _, ?_, hys, h1.trans hys⟩
    rw [← Go.Deep.add_add, hcell, hv]
end

section
variable {H : Type} {enc : TypeId × Value → H} {P : Program}
theorem trodAll_cons {W : World} {b : Nat} {sp : Nat → Bool} {hd : Bool} {t : TypeId} {ts : List TypeId} {v : Value} {vs : List Value} {ds : List (DataW H)} {ps : List MemPlace}
    (h : DataW.TrodAll enc P W b sp hd (t :: ts) (v :: vs) ds ps) : ∃ d ds' p q, ds = d :: ds' ∧ DataW.Trod enc P W b sp hd t v d p ∧ DataW.TrodAll enc P W b sp hd ts vs ds' q := by
  cases ds with
  | nil => exact h.elim
  | cons d ds =>
    obtain ⟨p, q, h1, h2, _⟩ := h
    exact ⟨d, ds, p, q, rfl, h1, h2⟩
theorem wf_has {k : IntKind} {n : Int} (h : (Lit.int k n).wf = true) : k.has n := by
  have h2 : k.min ≤ n ∧ n ≤ k.max := by simpa [Lit.wf] using h
  exact h2

/-- the number in a cell -/
def cellI (W : World) (p : Addr) : Int := match W.cell? p with
  | some (.int _ z) => z
  | _ => 0
theorem cellI_of {W : World} {p : Addr} {k : IntKind} {z : Int} (h : W.cell? p = some (.int k z)) : W.cell? p = some (.int k (cellI W p)) ∧ cellI W p = z := by
  unfold cellI; rw [h]; exact ⟨rfl, rfl⟩
theorem add_none {W : World} {a : Addr} {i : Nat} {v : Value} (h : W.cell? (a.add i) = some v) (h0 : i = 0 → a.spot = none) : a.add i = ⟨a.block, a.off + i, none⟩ := by
  unfold Addr.add
  split
  · rename_i e; subst e; obtain ⟨b, o, s⟩ := a; simp at h0; subst h0; rfl
  · rfl
theorem spot_none {W : World} {a : Addr} {v : Value} (h : W.cell? (a.add 0) = some v) : a.spot = none := by
  obtain ⟨b, o, s⟩ := a
  simp only [Addr.add, if_true, World.cell?] at h
  cases s with
  | none => rfl
  | some n => simp at h; split at h <;> simp at h

/-- a slice of pairs of words -/
theorem open_pairs {W : World} {t e : TypeId} {fs : Array Field} {f0 f1 : Field} {v : Value} {d : DataW H} {p : List MemPlace} {b : Nat} {sp : Nat → Bool} {hd : Bool} (ht : P.underlying t = some (.slice e)) (he : P.underlying e = some (.struct fs))
    (hfs : fs = #[f0, f1]) (hu0 : P.underlying f0.type = some (.int .u64)) (hu1 : P.underlying f1.type = some (.int .u64)) (hone : oneCellFields P fs = true) (hC : P.cellsOf e = fs.size) (hcell : ∃ A n c, v = .slice A n c) (h : DataW.Trod enc P W b sp hd t v d p) :
    ∃ (A : Option Addr) (n c : Nat) (x y : Nat → Int), v = .slice A n c ∧ n ≤ maxLen ∧ SlIs W A (n * 2) (fun j => .int .u64 (if j % 2 = 0 then x (j / 2) else y (j / 2))) ∧ ∀ i, i < n → (0 ≤ x i ∧ x i < 18446744073709551616) ∧ (0 ≤ y i ∧ y i < 18446744073709551616) := by
  obtain ⟨A, n, c, rfl⟩ := hcell
  obtain ⟨fuel, hf⟩ := h
  subst hfs
  rcases open_slice_fields ht he hone hC hf with ⟨h1, _⟩ | ⟨a, len, cap, m, D, Pl, h1, hb, hl, hm, hmm, hx, hi⟩
  · cases h1
    exact ⟨none, 0, 0, fun _ => 0, fun _ => 0, rfl, by simp [maxLen], SlIs.nil, fun i hi => by omega⟩
  · cases h1
    have hlm : n ≤ m := by rw [hmm]; split <;> omega
    have key : ∀ i, i < n → (W.cell? (a.add (i * 2)) = some (.int .u64 (cellI W (a.add (i * 2)))) ∧ 0 ≤ cellI W (a.add (i * 2)) ∧ cellI W (a.add (i * 2)) < 18446744073709551616) ∧ (W.cell? (a.add (i * 2 + 1)) = some (.int .u64 (cellI W (a.add (i * 2 + 1)))) ∧ 0 ≤ cellI W (a.add (i * 2 + 1)) ∧ cellI W (a.add (i * 2 + 1)) < 18446744073709551616) := by
      intro i hil
      obtain ⟨ys, n', _, _, _, hfld⟩ := hi i (by omega)
      obtain ⟨v0, y0, c0, _, t0⟩ := hfld 0 f0 rfl
      obtain ⟨v1, y1, c1, _, t1⟩ := hfld 1 f1 rfl
      obtain ⟨z0, e0, _, w0⟩ := DataW.trod_int hu0 t0
      obtain ⟨z1, e1, _, w1⟩ := DataW.trod_int hu1 t1
      cases e0; cases e1
      have r0 := has_u64 (wf_has w0)
      have r1 := has_u64 (wf_has w1)
      simp only [List.size_toArray, List.length_cons, List.length_nil, Nat.add_zero] at c0 c1
      obtain ⟨k0, q0⟩ := cellI_of c0
      obtain ⟨k1, q1⟩ := cellI_of c1
      exact ⟨⟨k0, by rw [q0]; exact r0⟩, ⟨k1, by rw [q1]; exact r1⟩⟩
    refine ⟨_, _, _, fun i => cellI W (a.add (i * 2)), fun i => cellI W (a.add (i * 2 + 1)), rfl, by omega, fun hn => ?_, fun i hil => ⟨(key i hil).1.2, (key i hil).2.2⟩⟩
    have hs : a.spot = none := by
      have := (key 0 (by omega)).1.1
      rw [Nat.zero_mul] at this
      exact spot_none this
    have hadd : ∀ i, a.add i = ⟨a.block, a.off + i, none⟩ := fun i => by
      obtain ⟨b, o, s⟩ := a
      simp only at hs
      subst hs
      unfold Addr.add
      split <;> simp_all
    refine ⟨a.block, a.off, by rw [← Nat.add_zero a.off, ← hadd 0]; rfl, ?_, fun j hj => ?_⟩
    · have := World.block_lt_of_cell? W _ (key 0 (by omega)).1.1
      rwa [hadd] at this
    · rw [← hadd]
      dsimp only
      split
      · rename_i h2
        have := (key (j / 2) (by omega)).1.1
        rw [show j / 2 * 2 = j from by omega] at this
        rw [this, show j / 2 * 2 = j from by omega]
      · rename_i h2
        have := (key (j / 2) (by omega)).2.1
        rw [show j / 2 * 2 + 1 = j from by omega] at this
        rw [this, show j / 2 * 2 + 1 = j from by omega]
end
end Go.Proofs.Ytbmdnifkjcimcaa
-- ByArg
namespace Go.Proofs.Ytbmdnifkjcimcaa
set_option linter.unusedVariables false
set_option linter.unusedSimpArgs false
open Go.ChangeShapes Go.WideShapes Go.Deep Go.ChangeAt Go.RowKit

section
variable {H : Type} {enc : TypeId × Value → H} {P : Program}
/-- the byte in a cell -/
def cellB (W : World) (p : Addr) : Int := if 0 ≤ cellI W p ∧ cellI W p < 256 then cellI W p else 0
theorem cellB_lo (W : World) (p : Addr) : 0 ≤ cellB W p ∧ cellB W p < 256 := by unfold cellB; split <;> omega
theorem cellB_of {W : World} {p : Addr} {z : Int} (h : W.cell? p = some (.int .u8 z)) (hz : 0 ≤ z ∧ z < 256) : W.cell? p = some (.int .u8 (cellB W p)) := by
  obtain ⟨h1, h2⟩ := cellI_of h
  unfold cellB
  rw [h2, if_pos hz]; exact h

theorem open_bytes {W : World} {t e : TypeId} {v : Value} {d : DataW H} {p : List MemPlace} {b : Nat} {sp : Nat → Bool} {hd : Bool} (ht : P.underlying t = some (.slice e)) (he : P.underlying e = some (.int .u8))
    (hC : P.cellsOf e = 1) (hcell : ∃ A n c, v = .slice A n c) (h : DataW.Trod enc P W b sp hd t v d p) :
    ∃ (A : Option Addr) (n c : Nat) (x : Nat → Int), v = .slice A n c ∧ n ≤ maxLen ∧ SlIs W A n (yV x) ∧ ∀ i, 0 ≤ x i ∧ x i < 256 := by
  obtain ⟨A, n, c, rfl⟩ := hcell
  obtain ⟨fuel, hf⟩ := h
  rcases open_slice ht hf with ⟨h1, _⟩ | ⟨a, len, cap, m, n', D, Pl, h1, hb, hl, hm, hmm, hx, hi⟩
  · cases h1
    exact ⟨none, 0, 0, fun _ => 0, rfl, by simp [maxLen], SlIs.nil, fun _ => (⟨Int.le_refl 0, by decide⟩ : (0 : Int) ≤ 0 ∧ (0 : Int) < 256)⟩
  · cases h1
    have hlm : n ≤ m := by rw [hmm]; split <;> omega
    have key : ∀ i, i < n → W.cell? (a.add i) = some (.int .u8 (cellB W (a.add i))) := by
      intro i hil
      obtain ⟨cs', hc, ht'⟩ := hi i (by omega)
      rw [hC, Nat.mul_one] at hc
      obtain ⟨z0, e0, _, w0⟩ := DataW.trod_int he ht'
      obtain ⟨_, hcl, hat⟩ := World.cells?_some hc
      have := hat 0 (by omega)
      have e1 : (a.add i).add 0 = a.add i := by simp [Addr.add]
      rw [e1, e0] at this
      exact cellB_of this (has_u8 (wf_has w0))
    refine ⟨_, _, _, fun i => cellB W (a.add i), rfl, by omega, fun hn => ?_, fun i => cellB_lo _ _⟩
    have hs : a.spot = none := spot_none (key 0 hn)
    have hadd : ∀ i, a.add i = ⟨a.block, a.off + i, none⟩ := fun i => by
      obtain ⟨b, o, s⟩ := a
      simp only at hs
      subst hs
      unfold Addr.add
      split <;> simp_all
    refine ⟨a.block, a.off, by rw [← Nat.add_zero a.off, ← hadd 0]; rfl, ?_, fun j hj => ?_⟩
    · have := World.block_lt_of_cell? W _ (key 0 hn)
      rwa [hadd] at this
    · rw [← hadd]; exact key j hj
end
end Go.Proofs.Ytbmdnifkjcimcaa
-- ByArg2
namespace Go.Proofs.Ytbmdnifkjcimcaa
set_option linter.unusedVariables false
set_option linter.unusedSimpArgs false
open Go.ChangeShapes Go.WideShapes Go.Deep Go.ChangeAt Go.RowKit

section
variable {H : Type} {enc : TypeId × Value → H} {P : Program}
theorem open_bytes2 {W : World} {t e : TypeId} {v : Value} {d : DataW H} {p : List MemPlace} {b : Nat} {sp : Nat → Bool} {hd : Bool} (ht : P.underlying t = some (.slice e)) (he : P.underlying e = some (.int .u8))
    (hC : P.cellsOf e = 1) (hcell : ∃ A n c, v = .slice A n c) (h : DataW.Trod enc P W b sp hd t v d p) :
    ∃ (A : Option Addr) (n c : Nat) (x : Nat → Int), v = .slice A n c ∧ (n ≤ c ∧ c ≤ maxLen) ∧ SlIs W A n (yV x) ∧ ∀ i, 0 ≤ x i ∧ x i < 256 := by
  obtain ⟨A, n, c, rfl⟩ := hcell
  obtain ⟨fuel, hf⟩ := h
  rcases open_slice ht hf with ⟨h1, _⟩ | ⟨a, len, cap, m, n', D, Pl, h1, hb, hl, hm, hmm, hx, hi⟩
  · cases h1
    exact ⟨none, 0, 0, fun _ => 0, rfl, by simp [maxLen], SlIs.nil, fun _ => (⟨Int.le_refl 0, by decide⟩ : (0 : Int) ≤ 0 ∧ (0 : Int) < 256)⟩
  · cases h1
    have hlm : n ≤ m := by rw [hmm]; split <;> omega
    have key : ∀ i, i < n → W.cell? (a.add i) = some (.int .u8 (cellB W (a.add i))) := by
      intro i hil
      obtain ⟨cs', hc, ht'⟩ := hi i (by omega)
      rw [hC, Nat.mul_one] at hc
      obtain ⟨z0, e0, _, w0⟩ := DataW.trod_int he ht'
      obtain ⟨_, hcl, hat⟩ := World.cells?_some hc
      have := hat 0 (by omega)
      have e1 : (a.add i).add 0 = a.add i := by simp [Addr.add]
      rw [e1, e0] at this
      exact cellB_of this (has_u8 (wf_has w0))
    refine ⟨_, _, _, fun i => cellB W (a.add i), rfl, ⟨by omega, hm⟩, fun hn => ?_, fun i => cellB_lo _ _⟩
    have hs : a.spot = none := spot_none (key 0 hn)
    have hadd : ∀ i, a.add i = ⟨a.block, a.off + i, none⟩ := fun i => by
      obtain ⟨b, o, s⟩ := a
      simp only at hs
      subst hs
      unfold Addr.add
      split <;> simp_all
    refine ⟨a.block, a.off, by rw [← Nat.add_zero a.off, ← hadd 0]; rfl, ?_, fun j hj => ?_⟩
    · have := World.block_lt_of_cell? W _ (key 0 hn)
      rwa [hadd] at this
    · rw [← hadd]; exact key j hj
end
end Go.Proofs.Ytbmdnifkjcimcaa
-- NdArg
namespace Go.Proofs.Ytbmdnifkjcimcaa
set_option linter.unusedVariables false
set_option linter.unusedSimpArgs false
open Go.ChangeShapes Go.WideShapes Go.Deep Go.ChangeAt Go.RowKit

section
variable {H : Type} {enc : TypeId × Value → H} {P : Program}
theorem at_slis {W : World} {a : Addr} {n : Nat} {f : Nat → Value} (key : ∀ i, i < n → W.cell? (a.add i) = some (f i)) : SlIs W (some a) n f := by
  intro hn
  have hs : a.spot = none := spot_none (key 0 hn)
  have hadd : ∀ i, a.add i = ⟨a.block, a.off + i, none⟩ := fun i => by
    obtain ⟨b, o, s⟩ := a
    simp only at hs
    subst hs
    unfold Addr.add
    split <;> simp_all
  refine ⟨a.block, a.off, by rw [← Nat.add_zero a.off, ← hadd 0]; rfl, ?_, fun j hj => ?_⟩
  · have := World.block_lt_of_cell? W _ (key 0 hn)
    rwa [hadd] at this
  · rw [← hadd]; exact key j hj
theorem one_cell {W : World} {b : Nat} {a : Addr} {cs : List Value} (h : W.cells? b a 1 = some cs) : ∃ v, cs = [v] ∧ W.cell? a = some v := by
  obtain ⟨_, hcl, hat⟩ := World.cells?_some h
  obtain ⟨v, rfl⟩ : ∃ v, cs = [v] := by
    match cs, hcl with
    | [v], _ => exact ⟨v, rfl⟩
  have := hat 0 (by omega)
  have e1 : a.add 0 = a := by simp [Addr.add]
  rw [e1] at this
  exact ⟨v, rfl, this⟩
theorem openL_bytes {W : World} {t e : TypeId} {cs : List Value} {x : DataW H × List MemPlace} {fuel b : Nat} {sp : Nat → Bool} {hd : Bool} (ht : P.underlying t = some (.slice e)) (he : P.underlying e = some (.int .u8))
    (hC : P.cellsOf e = 1) (hf : DataW.trod enc P W b sp hd fuel t cs = some x) :
    ∃ (A : Option Addr) (n c : Nat) (x : Nat → Int), cs = [.slice A n c] ∧ n ≤ c ∧ c ≤ maxLen ∧ SlIs W A n (yV x) ∧ ∀ i, 0 ≤ x i ∧ x i < 256 := by
  rcases open_slice ht hf with ⟨h1, _⟩ | ⟨a, n, c, m, n', D, Pl, h1, hb, hl, hm, hmm, hx, hi⟩
  · subst h1
    exact ⟨none, 0, 0, fun _ => 0, rfl, Nat.le_refl _, by simp [maxLen], SlIs.nil, fun _ => (⟨Int.le_refl 0, by decide⟩ : (0 : Int) ≤ 0 ∧ (0 : Int) < 256)⟩
  · subst h1
    have hlm : n ≤ m := by rw [hmm]; split <;> omega
    have key : ∀ i, i < n → W.cell? (a.add i) = some (.int .u8 (cellB W (a.add i))) := by
      intro i hil
      obtain ⟨cs', hc, ht'⟩ := hi i (by omega)
      rw [hC, Nat.mul_one] at hc
      obtain ⟨z0, e0, _, w0⟩ := DataW.trod_int he ht'
      obtain ⟨v, e1, hv⟩ := one_cell hc
      rw [e0] at e1; cases e1
      exact cellB_of hv (has_u8 (wf_has w0))
    exact ⟨_, _, _, fun i => cellB W (a.add i), rfl, hl, hm, at_slis key, fun i => cellB_lo _ _⟩
/-- the number of 32 bits in a cell -/
def cellU (W : World) (p : Addr) : Int := if 0 ≤ cellI W p ∧ cellI W p < 4294967296 then cellI W p else 0
theorem cellU_lo (W : World) (p : Addr) : 0 ≤ cellU W p ∧ cellU W p < 4294967296 := by unfold cellU; split <;> omega
theorem cellU_of {W : World} {p : Addr} {z : Int} (h : W.cell? p = some (.int .u32 z)) (hz : 0 ≤ z ∧ z < 4294967296) : W.cell? p = some (.int .u32 (cellU W p)) := by
  obtain ⟨h1, h2⟩ := cellI_of h
  unfold cellU
  rw [h2, if_pos hz]; exact h
theorem openL_u32 {W : World} {t e : TypeId} {cs : List Value} {x : DataW H × List MemPlace} {fuel b : Nat} {sp : Nat → Bool} {hd : Bool} (ht : P.underlying t = some (.slice e)) (he : P.underlying e = some (.int .u32))
    (hC : P.cellsOf e = 1) (hf : DataW.trod enc P W b sp hd fuel t cs = some x) :
    ∃ (A : Option Addr) (n c : Nat) (x : Nat → Int), cs = [.slice A n c] ∧ n ≤ c ∧ c ≤ maxLen ∧ SlIs W A n (fun j => .int .u32 (x j)) ∧ ∀ i, 0 ≤ x i ∧ x i < 4294967296 := by
  rcases open_slice ht hf with ⟨h1, _⟩ | ⟨a, n, c, m, n', D, Pl, h1, hb, hl, hm, hmm, hx, hi⟩
  · subst h1
    exact ⟨none, 0, 0, fun _ => 0, rfl, Nat.le_refl _, by simp [maxLen], SlIs.nil, fun _ => (⟨Int.le_refl 0, by decide⟩ : (0 : Int) ≤ 0 ∧ (0 : Int) < 4294967296)⟩
  · subst h1
    have hlm : n ≤ m := by rw [hmm]; split <;> omega
    have key : ∀ i, i < n → W.cell? (a.add i) = some (.int .u32 (cellU W (a.add i))) := by
      intro i hil
      obtain ⟨cs', hc, ht'⟩ := hi i (by omega)
      rw [hC, Nat.mul_one] at hc
      obtain ⟨z0, e0, _, w0⟩ := DataW.trod_int he ht'
      obtain ⟨v, e1, hv⟩ := one_cell hc
      rw [e0] at e1; cases e1
      exact cellU_of hv (has_u32 (wf_has w0))
    exact ⟨_, _, _, fun i => cellU W (a.add i), rfl, hl, hm, at_slis (f := fun i => .int .u32 (cellU W (a.add i))) key, fun i => cellU_lo _ _⟩
theorem openL_rows {W : World} {t e e2 : TypeId} {cs : List Value} {x : DataW H × List MemPlace} {fuel b : Nat} {sp : Nat → Bool} {hd : Bool} (ht : P.underlying t = some (.slice e)) (he : P.underlying e = some (.slice e2)) (he2 : P.underlying e2 = some (.int .u8))
    (hC : P.cellsOf e = 1) (hC2 : P.cellsOf e2 = 1) (hf : DataW.trod enc P W b sp hd fuel t cs = some x) :
    ∃ (A : Option Addr) (n c : Nat) (L : Nat → Nat) (R : Nat → Nat → Int), cs = [.slice A n c] ∧ n ≤ c ∧ c ≤ maxLen ∧ RsIs W A n L R ∧ ∀ i j, 0 ≤ R i j ∧ R i j < 256 := by
  rcases open_slice ht hf with ⟨h1, _⟩ | ⟨a, n, c, m, n', D, Pl, h1, hb, hl, hm, hmm, hx, hi⟩
  · subst h1
    exact ⟨none, 0, 0, fun _ => 0, fun _ _ => 0, rfl, Nat.le_refl _, by simp [maxLen], RsIs.nil, fun _ _ => (⟨Int.le_refl 0, by decide⟩ : (0 : Int) ≤ 0 ∧ (0 : Int) < 256)⟩
  · subst h1
    have hlm : n ≤ m := by rw [hmm]; split <;> omega
    have key : ∀ i, ∃ q : Option Addr × Nat × Nat × (Nat → Int), (i < n → W.cell? (a.add i) = some (.slice q.1 q.2.1 q.2.2.1) ∧ q.2.1 ≤ q.2.2.1 ∧ q.2.2.1 ≤ maxLen ∧ SlIs W q.1 q.2.1 (yV q.2.2.2)) ∧ ∀ j, 0 ≤ q.2.2.2 j ∧ q.2.2.2 j < 256 := by
      intro i
      by_cases hil : i < n
      · obtain ⟨cs', hc, ht'⟩ := hi i (by omega)
        rw [hC, Nat.mul_one] at hc
        obtain ⟨A', l', c', y, e0, q1, q2, q3, q4⟩ := openL_bytes he he2 hC2 ht'
        obtain ⟨v, e1, hv⟩ := one_cell hc
        rw [e0] at e1; cases e1
        exact ⟨⟨A', l', c', y⟩, fun _ => ⟨hv, q1, q2, q3⟩, q4⟩
      · exact ⟨⟨none, 0, 0, fun _ => 0⟩, fun h => absurd h hil, fun _ => (⟨Int.le_refl 0, by decide⟩ : (0 : Int) ≤ 0 ∧ (0 : Int) < 256)⟩
    obtain ⟨q, hq⟩ := Classical.axiomOfChoice key
    refine ⟨_, _, _, fun i => (q i).2.1, fun i => (q i).2.2.2, rfl, hl, hm, ⟨fun i => (q i).1, fun i => (q i).2.2.1, at_slis (f := fun i => .slice (q i).1 (q i).2.1 (q i).2.2.1) (fun i h => ((hq i).1 h).1), fun i h => ((hq i).1 h).2⟩, fun i j => (hq i).2 j⟩
theorem open_node {W : World} {t e1 e2 e3 : TypeId} {fs : Array Field} {f0 f1 f2 f3 : Field} {x0 x1 x2 x3 : Value} {d : DataW H} {p : List MemPlace} {b : Nat} {sp : Nat → Bool} {hd : Bool} (ht : P.underlying t = some (.struct fs))
    (hfs : fs = #[f0, f1, f2, f3]) (hone : oneCellFields P fs = true) (u1 : P.underlying f1.type = some (.slice e1)) (u2 : P.underlying f2.type = some (.slice e1)) (u3 : P.underlying f3.type = some (.slice e3)) (ue1 : P.underlying e1 = some (.slice e2)) (ue2 : P.underlying e2 = some (.int .u8)) (ue3 : P.underlying e3 = some (.int .u32))
    (c1 : P.cellsOf e1 = 1) (c2 : P.cellsOf e2 = 1) (c3 : P.cellsOf e3 = 1) (h : DataW.Trod enc P W b sp hd t (.agg #[x0, x1, x2, x3]) d p) :
    ∃ (KA VA CA : Option Addr) (kn kc vn vc cn cc : Nat) (KL VL : Nat → Nat) (K V : Nat → Nat → Int) (C : Nat → Int), x1 = .slice KA kn kc ∧ x2 = .slice VA vn vc ∧ x3 = .slice CA cn cc ∧
      (kn ≤ kc ∧ kc ≤ maxLen ∧ vn ≤ vc ∧ vc ≤ maxLen ∧ cn ≤ cc ∧ cc ≤ maxLen) ∧ RsIs W KA kn KL K ∧ RsIs W VA vn VL V ∧ SlIs W CA cn (fun j => .int .u32 (C j)) ∧ (∀ i j, 0 ≤ K i j ∧ K i j < 256) ∧ (∀ i j, 0 ≤ V i j ∧ V i j < 256) ∧ ∀ i, 0 ≤ C i ∧ C i < 4294967296 := by
  subst hfs
  obtain ⟨fuel, hf⟩ := h
  obtain ⟨xs, n, _, _, _, hxl, hfl⟩ := DataW.trod_struct ht hf
  have hs : ∀ j, j < 4 → ∃ y, xs[j]? = some y := fun j hj => ⟨xs[j]'(by rw [hxl]; exact hj), List.getElem?_eq_getElem _⟩
  have g1 := hfl 1 f1 rfl
  have g2 := hfl 2 f2 rfl
  have g3 := hfl 3 f3 rfl
  have o1 := hone_of hone 1 f1 rfl
  have o2 := hone_of hone 2 f2 rfl
  have o3 := hone_of hone 3 f3 rfl
  rw [o1.1, o1.2] at g1
  rw [o2.1, o2.2] at g2
  rw [o3.1, o3.2] at g3
  obtain ⟨y1, r1⟩ := hs 1 (by omega)
  obtain ⟨y2, r2⟩ := hs 2 (by omega)
  obtain ⟨y3, r3⟩ := hs 3 (by omega)
  obtain ⟨KA, kn, kc, KL, K, k0, k1, k2, k3, k4⟩ := openL_rows u1 ue1 ue2 c1 c2 (g1.trans r1)
  obtain ⟨VA, vn, vc, VL, V, v0, v1, v2, v3, v4⟩ := openL_rows u2 ue1 ue2 c1 c2 (g2.trans r2)
  obtain ⟨CA, cn, cc, C, z0, z1, z2, z3, z4⟩ := openL_u32 u3 ue3 c3 (g3.trans r3)
  refine ⟨KA, VA, CA, kn, kc, vn, vc, cn, cc, KL, VL, K, V, C, ?_, ?_, ?_, ⟨k1, k2, v1, v2, z1, z2⟩, k3, v3, z3, k4, v4, z4⟩
  · exact List.head_eq_of_cons_eq k0
  · exact List.head_eq_of_cons_eq v0
  · exact List.head_eq_of_cons_eq z0
end
end Go.Proofs.Ytbmdnifkjcimcaa
