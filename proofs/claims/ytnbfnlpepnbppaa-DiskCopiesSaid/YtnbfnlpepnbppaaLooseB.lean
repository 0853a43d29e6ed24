/-
  The steps of the walk through a region with loose calls.
-/
import Derived.Test.YtnbfnlpepnbppaaLoose
namespace Go.Proofs.Ytnbfnlpepnbppaa
set_option linter.unusedVariables false
set_option linter.unusedSimpArgs false
open Go.RowKit

def notB (H l : List Nat) : Bool := H.all fun d => !(l.contains d)
theorem notB_of {H l : List Nat} (h : notB H l = true) : ∀ d ∈ H, d ∉ l := by
  intro d hd hl
  have := (List.all_eq_true.1 h) d hd
  simp [hl] at this
def dstB (H : List Nat) (o : Oper) : Bool := H.all fun d => !(o.dst == some d)
theorem dstB_of {H : List Nat} {o : Oper} (h : dstB H o = true) : ∀ d ∈ H, o.dst ≠ some d := by
  intro d hd hl
  have := (List.all_eq_true.1 h) d hd
  simp [hl] at this
def inB (N : Nat) (o : Oper) : Bool := match o.dst with
  | some d => decide (d < N)
  | none => false
theorem inB_of {N : Nat} {o : Oper} (h : inB N o = true) : ∃ d, o.dst = some d ∧ d < N := by
  unfold inB at h
  cases hd : o.dst with
  | none => rw [hd] at h; cases h
  | some d => rw [hd] at h; exact ⟨d, rfl, of_decide_eq_true h⟩
def depB (md : Region.Mode) (ops : Array Oper) (H : List Nat) (s : Nat) (o : Oper) : Bool :=
  notB H (guardSlot ops o) && dstB H o && H.contains s && (H.all fun d => !((o.looksAt ops).contains d) || d == s) &&
  o.after.any fun e => Region.binds md e && (match ops[e.on]? with | some o' => o'.dst == some s | none => false)

section
variable {P : Program} {md : Region.Mode} {ops : Array Oper} {W0 : World} {H : List Nat} {L : Nat → Value → World → Prop} {Q : Act → Prop} {o : Oper} {rest : List Oper} {a a2 : Act}
theorem lexY_quiet (N : Nat) (hsz : a.tmps.size = N) (hB : (notB H (o.looksAt ops) && dstB H o && inB N o) = true) (hw : Region.wanted o (yielded ops a.tmps) = true)
    (h : ∀ n (K : Act → Prop), K a2 → o.quiet P a (fun X => ∃ d, X = Grow (Grow W0 n) d) K) (hk : lexY (RY P md ops W0 H L) Q rest a2) : lexY (RY P md ops W0 H L) Q (o :: rest) a := by
  simp only [Bool.and_eq_true] at hB
  obtain ⟨⟨h1, h2⟩, h3⟩ := hB
  obtain ⟨d, hd, hlt⟩ := inB_of h3
  have hl : d < a.tmps.size := by rw [hsz]; exact hlt
  obtain ⟨v, _, hv⟩ := h W0 (fun a' => a' = a2) rfl
  refine ⟨v, Or.inr (Or.inl ⟨hw, notB_of h1, dstB_of h2, fun n => ?_⟩), by rw [hv]; exact hk⟩
  obtain ⟨u, hu, hu2⟩ := h n (fun a' => a' = a2) rfl
  have e : u = v := by
    have e1 : (a.put o.dst u).eval (.tmp d) = (a.put o.dst v).eval (.tmp d) := by rw [hu2, hv]
    rw [hd, eval_put_same hl, eval_put_same hl] at e1
    exact e1
  subst e
  exact hu _ ⟨_, grow_self _⟩
theorem lexY_skip (hB : (notB H (o.looksAt ops) && dstB H o) = true) (hw : Region.wanted o (yielded ops a.tmps) = false) (hk : lexY (RY P md ops W0 H L) Q rest (a.put o.dst undef)) : lexY (RY P md ops W0 H L) Q (o :: rest) a := by
  simp only [Bool.and_eq_true] at hB
  exact ⟨undef, Or.inl ⟨hw, rfl, notB_of hB.1, dstB_of hB.2⟩, hk⟩
theorem lexY_loose (d : Nat) (hB : (notB H (o.looksAt ops) && H.contains d && (o.dst == some d)) = true) (hw : Region.wanted o (yielded ops a.tmps) = true) (f : FuncId) (args : Array Value)
    (hx : ∀ w, (execOp a.eval o).run P w = .ok (.enter f args) w) (hc : ∀ n, Calls P f args (Grow W0 n) (fun e w' => ∃ u, e = .returned u ∧ Below (Grow W0 n).heap.size (Grow W0 n) w' ∧ L d u w'))
    (ha : a.put o.dst undef = a2) (hk : lexY (RY P md ops W0 H L) Q rest a2) : lexY (RY P md ops W0 H L) Q (o :: rest) a := by
  simp only [Bool.and_eq_true] at hB
  obtain ⟨⟨h1, h2⟩, h3⟩ := hB
  refine ⟨undef, Or.inr (Or.inr (Or.inl ⟨hw, notB_of h1, rfl, d, by simpa using h3, by simpa using h2, fun n => ⟨f, args, hx _, hc n⟩⟩)), by rw [ha]; exact hk⟩
theorem lexY_dep (s : Nat) (v : Value) (hB : depB md ops H s o = true) (hw : Region.wanted o (yielded ops a.tmps) = true)
    (hx : ∀ n u, L s u (Grow W0 n) → (execOp (ovr a s u) o).run P (Grow W0 n) = .ok (.value v) (Grow W0 n))
    (ha : a.put o.dst v = a2) (hk : lexY (RY P md ops W0 H L) Q rest a2) : lexY (RY P md ops W0 H L) Q (o :: rest) a := by
  unfold depB at hB
  simp only [Bool.and_eq_true, List.any_eq_true, Array.any_eq_true] at hB
  obtain ⟨⟨⟨⟨h1, h2⟩, h3⟩, h4⟩, i, hi, h5, h6⟩ := hB
  refine ⟨v, Or.inr (Or.inr (Or.inr ⟨hw, notB_of h1, dstB_of h2, s, o.after[i], ?_⟩)), by rw [ha]; exact hk⟩
  cases ho : ops[o.after[i].on]? with
  | none => rw [ho] at h6; cases h6
  | some o' =>
    rw [ho] at h6
    refine ⟨o', by simpa using h3, by simp, h5, rfl, by simpa using h6, fun d hd hl => ?_, hx⟩
    have := (List.all_eq_true.1 h4) d hd
    simp [hl] at this
    exact this
end
theorem Agree.one {d : Nat} {a a' : Act} (h : Agree [d] a a') : ∃ u, a' = a.put (some d) u := by
  refine ⟨a'.eval (.tmp d), ?_⟩
  obtain ⟨h1, h2, h3⟩ := h
  cases a with
  | mk t l =>
    cases a' with
    | mk t' l' =>
      simp only at h1 h2 h3
      subst h1
      simp only [Act.put, Act.eval]
      congr 1
      apply Array.ext_getElem?
      intro i
      rw [Array.getElem?_setIfInBounds]
      by_cases e : d = i
      · subst e
        rw [if_pos rfl]
        split
        · rename_i hl
          rw [Array.getD_eq_getD_getElem?, Array.getElem?_eq_getElem (by omega)]; rfl
        · rename_i hl
          rw [Array.getElem?_eq_none (by omega)]
      · rw [if_neg e]
        exact h3 i (by simpa using fun q => e q.symm)
theorem Agree.two {d e : Nat} {a a' : Act} (h : Agree [d, e] a a') : ∃ u v, a' = (a.put (some d) u).put (some e) v := by
  obtain ⟨h1, h2, h3⟩ := h
  have hb : Agree [e] (a.put (some d) (a'.eval (.tmp d))) a' := by
    refine ⟨h1, by rw [put_size]; exact h2, fun s hs => ?_⟩
    simp only [Act.put, Array.getElem?_setIfInBounds]
    by_cases q : d = s
    · subst q
      rw [if_pos rfl]
      split
      · rename_i hl
        simp only [Act.eval]
        rw [Array.getD_eq_getD_getElem?, Array.getElem?_eq_getElem (by omega)]; rfl
      · rename_i hl
        rw [Array.getElem?_eq_none (by omega)]
    · rw [if_neg q]
      exact h3 s (by simp only [List.mem_cons, List.not_mem_nil, or_false] at hs ⊢; rintro (r | r); exact q r.symm; exact hs r)
  obtain ⟨v, hv⟩ := hb.one
  exact ⟨_, v, hv⟩
end Go.Proofs.Ytnbfnlpepnbppaa
