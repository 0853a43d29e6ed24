/-
  A region that draws its order, among whose calls are some that make memory which the region itself reads: one walk in the text's order serves. The slots of such calls ('loose') hold whatever they hand back; of each there is a fact that stands however memory grows.
-/
import Derived.Test.YtnbfnlpepnbppaaTail
namespace Go.Proofs.Ytnbfnlpepnbppaa.LM
set_option linter.unusedVariables false
set_option linter.unusedSimpArgs false
open Go.RowKit

section
variable {P : Program} {ops : Array Oper} {md : Region.Mode} {Y : Oper → Value → Act → Prop}

def yOp (ops : Array Oper) (Y : Oper → Value → Act → Prop) (i : Nat) (K : Act → Prop) (a : Act) : Prop :=
  match ops[i]? with
  | none => K a
  | some o => ∃ v, Y o v a ∧ K (a.put o.dst v)
def anyY (md : Region.Mode) (ops : Array Oper) (Y : Oper → Value → Act → Prop) (Q : Act → Prop) : Nat → Array Bool → Act → Prop
  | 0, listed, a => Region.ready md ops listed = [] ∧ Q a
  | fuel + 1, listed, a => (Region.ready md ops listed = [] → Q a) ∧ ∀ i ∈ Region.ready md ops listed, yOp ops Y i (anyY md ops Y Q fuel (listed.setIfInBounds i true)) a
def lexY (Y : Oper → Value → Act → Prop) (Q : Act → Prop) : List Oper → Act → Prop
  | [], a => Q a
  | o :: rest, a => ∃ v, Y o v a ∧ lexY Y Q rest (a.put o.dst v)
theorem yOp_mono {i : Nat} {a : Act} {K K' : Act → Prop} (h : ∀ a, K a → K' a) (hh : yOp ops Y i K a) : yOp ops Y i K' a := by
  unfold yOp at *
  split
  · exact h _ (by simpa [*] using hh)
  · rename_i o ho
    simp only [ho] at hh
    obtain ⟨v, h1, h2⟩ := hh
    exact ⟨v, h1, h _ h2⟩
theorem yOp_of {i : Nat} {o : Oper} {v : Value} {a : Act} (hi : ops[i]? = some o) (hy : Y o v a) {K : Act → Prop} (h : K (a.put o.dst v)) : yOp ops Y i K a := by
  unfold yOp; simp only [hi]; exact ⟨v, hy, h⟩
variable (hY : ∀ (j : Nat) o v a dst u, ops[j]? = some o → (∀ d, dst = some d → d ∉ o.looksAt ops) → (Y o v a ↔ Y o v (a.put dst u)))
include hY
theorem yOp_put {i j : Nat} {oi oj : Oper} {v : Value} (hi : ops[i]? = some oi) (hj : ops[j]? = some oj) (hap : oi.apart ops oj = true) {K : Act → Prop} {a : Act}
    (hy : Y oi v a) (h : yOp ops Y j K (a.put oi.dst v)) : yOp ops Y j (fun a' => Y oi v a' ∧ K (a'.put oi.dst v)) a := by
  obtain ⟨h1, h2, h3⟩ := Oper.apart_spec hap
  have hj' := hj
  unfold yOp at *
  simp only [hj] at h ⊢
  obtain ⟨u, hu, hK⟩ := h
  exact ⟨u, (hY j oj u a oi.dst v hj' h1).2 hu, (hY i oi v a oj.dst u hi h3).1 hy, by rw [← Act.put_comm a v u h2]; exact hK⟩
theorem anyY_first {Q : Act → Prop} {i : Nat} {oi : Oper} {v : Value} (hi : ops[i]? = some oi) :
    ∀ (fuel : Nat) (listed : Array Bool) (a : Act),
      (∀ j oj, ops[j]? = some oj → j ≠ i → listed.getD j true = false → (∀ e ∈ oj.after, Region.binds md e = true → e.on ≠ i) → oi.apart ops oj = true) →
      i ∈ Region.ready md ops listed → Y oi v a →
      anyY md ops Y Q fuel (listed.setIfInBounds i true) (a.put oi.dst v) → anyY md ops Y Q (fuel + 1) listed a := by
  intro fuel
  induction fuel with
  | zero =>
    intro listed a _ hr hy H
    refine ⟨fun h => (by rw [h] at hr; cases hr), fun j hj => ?_⟩
    by_cases hji : j = i
    · subst hji; exact yOp_of hi hy H
    · have := ready_mono hj hji
      rw [H.1] at this
      cases this
  | succ fuel ih =>
    intro listed a hfree hr hy H
    refine ⟨fun h => (by rw [h] at hr; cases hr), fun j hj => ?_⟩
    by_cases hji : j = i
    · subst hji; exact yOp_of hi hy H
    · have h1 := H.2 j (ready_mono hj hji)
      obtain ⟨hjun, oj, hoj, hall⟩ := mem_ready.1 hj
      have hnot : ∀ e ∈ oj.after, Region.binds md e = true → e.on ≠ i := fun e he hb heq => by
        have h1 := hall e he hb
        have h0 := (mem_ready.1 hr).1
        rw [heq] at h1
        rcases Nat.lt_or_ge i listed.size with h' | h'
        · simp [h'] at h0 h1; rw [h0] at h1; cases h1
        · simp [Array.getElem?_eq_none h'] at h1
      have h2 := yOp_put hY hi hoj (hfree j oj hoj hji hjun hnot) hy h1
      have hfree' : ∀ k ok, ops[k]? = some ok → k ≠ i → (listed.setIfInBounds j true).getD k true = false →
          (∀ e ∈ ok.after, Region.binds md e = true → e.on ≠ i) → oi.apart ops ok = true := fun k ok hk hki hun hno => by
        refine hfree k ok hk hki ?_ hno
        by_cases hjk : j = k
        · subst hjk; exact hjun
        · rw [getD_set_ne true hjk] at hun; exact hun
      refine yOp_mono (fun a' h3 => ih (listed.setIfInBounds j true) a' hfree' (ready_mono hr (Ne.symm hji)) h3.1 ?_) h2
      rw [Array.setIfInBounds_comm _ _ hji]
      exact h3.2
theorem anyY_lex {Q : Act → Prop} : ∀ (l : List Oper) (k : Nat) (listed : Array Bool) (a : Act), (∀ j, l[j]? = ops[k + j]?) →
    Region.lexFrom md ops l.length k listed = true → lexY Y Q l a → anyY md ops Y Q l.length listed a
  | [], _, _, _, _, hB, h => ⟨by simpa [Region.lexFrom] using hB, h⟩
  | o :: l, k, listed, a, hl, hB, h => by
    have h0 : ops[k]? = some o := by simpa using (hl 0).symm
    simp only [List.length_cons, Region.lexFrom, Bool.and_eq_true] at hB
    obtain ⟨⟨hr, hf⟩, hB'⟩ := hB
    obtain ⟨v, hy, hK⟩ := h
    exact anyY_first hY h0 l.length listed a (Region.free_spec h0 hf) (by simpa using hr) hy
      (anyY_lex l (k + 1) _ _ (fun j => by have := hl (j + 1); simpa [Nat.add_assoc, Nat.add_comm 1 j] using this) hB' hK)
end

/-- frames that are alike but for the slots H -/
def Agree (H : List Nat) (a a' : Act) : Prop := a'.defers = a.defers ∧ a'.tmps.size = a.tmps.size ∧ ∀ s, s ∉ H → a'.tmps[s]? = a.tmps[s]?
/-- a frame's slots, slot s overridden -/
def ovr (a : Act) (s : Nat) (u : Value) : Operand → Value
  | .tmp t => if t = s then u else a.eval (.tmp t)
  | x => a.eval x
section
variable {P : Program} {ops : Array Oper} {H : List Nat} {a a' : Act} {o : Oper}
theorem Agree.eval (h : Agree H a a') {x : Operand} (hx : ∀ d ∈ H, x ≠ .tmp d) : a'.eval x = a.eval x := by
  cases x with
  | tmp t =>
    have e := h.2.2 t (fun ht => hx t ht rfl)
    simp only [Act.eval, Array.getD_eq_getD_getElem?, e]
  | _ => rfl
theorem mem_looks {d : Nat} (hx : Operand.tmp d ∈ o.op.operands) : d ∈ o.looksAt ops := List.mem_append_left _ (List.mem_filterMap.2 ⟨.tmp d, by simpa using hx, rfl⟩)
theorem Agree.exec (h : Agree H a a') (hs : ∀ cs b, o.op ≠ .select cs b) (hH : ∀ d ∈ H, d ∉ o.looksAt ops) : execOp a'.eval o = execOp a.eval o :=
  execOp_congr o hs fun x hx => h.eval fun d hd e => hH d hd (by subst e; exact mem_looks hx)
def guardSlot (ops : Array Oper) (o : Oper) : List Nat := match o.guard with
  | some (g, _) => ((ops[g]?).bind (·.dst)).toList
  | none => []
theorem Agree.wanted (h : Agree H a a') (hH : ∀ d ∈ H, d ∉ guardSlot ops o) : Region.wanted o (yielded ops a'.tmps) = Region.wanted o (yielded ops a.tmps) := by
  unfold Region.wanted
  cases hg : o.guard with
  | none => rfl
  | some gw =>
    obtain ⟨g, want⟩ := gw
    have hy : yielded ops a'.tmps g = yielded ops a.tmps g := by
      unfold yielded
      cases ht : (ops[g]?).bind (·.dst) with
      | none => rfl
      | some t =>
        have hn : t ∉ H := fun h2 => hH t h2 (by simp [guardSlot, hg, ht])
        simp [h.2.2 t hn]
    simp only [hy]
theorem looks_guard {d : Nat} (h : d ∈ guardSlot ops o) : d ∈ o.looksAt ops := List.mem_append_right _ h
theorem Agree.put (h : Agree H a a') (dst : Option Nat) (v : Value) : Agree H (a.put dst v) (a'.put dst v) := by
  cases dst with
  | none => exact h
  | some d =>
    refine ⟨h.1, by simp [Act.put, h.2.1], fun s hs => ?_⟩
    simp only [Act.put, Array.getElem?_setIfInBounds, h.2.1, h.2.2 s hs]
theorem Agree.putH (h : Agree H a a') {d : Nat} (hd : d ∈ H) (v v' : Value) : Agree H (a.put (some d) v) (a'.put (some d) v') := by
  refine ⟨h.1, by simp [Act.put, h.2.1], fun s hs => ?_⟩
  have hne : d ≠ s := fun e => hs (e ▸ hd)
  simp only [Act.put, Array.getElem?_setIfInBounds_ne hne, h.2.2 s hs]
theorem put_size (a : Act) (dst : Option Nat) (v : Value) : (a.put dst v).tmps.size = a.tmps.size := by cases dst <;> simp [Act.put]
theorem eval_put_same {d : Nat} {v : Value} (h : d < a.tmps.size) : (a.put (some d) v).eval (.tmp d) = v := by
  simp [Act.put, Act.eval, Array.getD_eq_getD_getElem?, h]
theorem eval_put_ne {d : Nat} {dst : Option Nat} {v : Value} (h : dst ≠ some d) : (a.put dst v).eval (.tmp d) = a.eval (.tmp d) :=
  Act.eval_put fun e he hx => h (by rw [he]; cases hx; rfl)
end

section
variable {P : Program} {ops : Array Oper} {md : Region.Mode}
/-- what an operation yields in the frame a (the loose slots H left out), in every world grown from W0 -/
def RY (P : Program) (md : Region.Mode) (ops : Array Oper) (W0 : World) (H : List Nat) (L : Nat → Value → World → Prop) (o : Oper) (v : Value) (a : Act) : Prop :=
  (Region.wanted o (yielded ops a.tmps) = false ∧ v = undef ∧ (∀ d ∈ H, d ∉ o.looksAt ops) ∧ (∀ d ∈ H, o.dst ≠ some d)) ∨
  (Region.wanted o (yielded ops a.tmps) = true ∧ (∀ d ∈ H, d ∉ o.looksAt ops) ∧ (∀ d ∈ H, o.dst ≠ some d) ∧ ∀ n, o.quietAt P a (fun X => ∃ d, X = Grow (Grow W0 n) d) (Grow W0 n) v) ∨
  (Region.wanted o (yielded ops a.tmps) = true ∧ (∀ d ∈ H, d ∉ o.looksAt ops) ∧ v = undef ∧ ∃ d, o.dst = some d ∧ d ∈ H ∧ ∀ n, (∃ f args, (execOp a.eval o).run P (Grow W0 n) = .ok (.enter f args) (Grow W0 n) ∧
    Calls P f args (Grow W0 n) (fun e w' => ∃ u, e = .returned u ∧ Below (Grow W0 n).heap.size (Grow W0 n) w' ∧ L d u w')) ∨
    ∃ u w', (execOp a.eval o).run P (Grow W0 n) = .ok (.value u) w' ∧ Below (Grow W0 n).heap.size (Grow W0 n) w' ∧ L d u w') ∨
  (Region.wanted o (yielded ops a.tmps) = true ∧ (∀ d ∈ H, d ∉ guardSlot ops o) ∧ (∀ d ∈ H, o.dst ≠ some d) ∧ ∃ s e o', s ∈ H ∧ e ∈ o.after ∧ Region.binds md e = true ∧ ops[e.on]? = some o' ∧ o'.dst = some s ∧ (∀ d ∈ H, d ∈ o.looksAt ops → d = s) ∧
    ∀ n u, L s u (Grow W0 n) → (execOp (ovr a s u) o).run P (Grow W0 n) = .ok (.value v) (Grow W0 n))
variable {W0 : World} {H : List Nat} {L : Nat → Value → World → Prop}
theorem RY_put (hsel : Region.noSelect ops = true) (j : Nat) (o : Oper) (v : Value) (a : Act) (dst : Option Nat) (u : Value) (hj : ops[j]? = some o) (hd : ∀ d, dst = some d → d ∉ o.looksAt ops) :
    RY P md ops W0 H L o v a ↔ RY P md ops W0 H L o v (a.put dst u) := by
  have hs := fun cs b => Region.noSelect_spec hsel j o cs b hj
  have e1 := execOp_put o hs a dst u hd
  have e2 := wanted_put o a dst u hd
  have e3 : ∀ s x, execOp (ovr (a.put dst u) s x) o = execOp (ovr a s x) o := fun s x => execOp_congr o hs fun y hy => by
    cases y with
    | tmp t =>
      show (if t = s then x else (a.put dst u).eval (.tmp t)) = (if t = s then x else a.eval (.tmp t))
      rw [eval_put_ne (fun e => hd t e (mem_looks hy))]
    | _ => rfl
  unfold RY Oper.quietAt
  rw [e1, e2]
  simp only [e3]
variable (hL : ∀ s v w w', L s v w → Below w.heap.size w w' → L s v w')
include hL
theorem any_of_Y (hsel : Region.noSelect ops = true) {Qr : Act → Prop} {Q' : Exit → Act → World → Prop} (hQ : ∀ a a' w, Below W0.heap.size W0 w → Agree H a a' → Qr a → Q' .normal a' w) :
    ∀ (fuel : Nat) (listed : Array Bool) (a a' : Act) (w : World), Below W0.heap.size W0 w → Agree H a a' → (∀ d ∈ H, d < a'.tmps.size) →
      (∀ i o d, ops[i]? = some o → listed.getD i false = true → o.dst = some d → d ∈ H → L d (a'.eval (.tmp d)) w) →
      anyY md ops (RY P md ops W0 H L) Qr fuel listed a → wpAny P md ops Q' fuel listed a' w
  | 0, _, _, _, _, hw, hag, _, _, h => ⟨h.1, hQ _ _ _ hw hag h.2⟩
  | fuel + 1, listed, a, a', w, hw, hag, hsz, hinv, h => by
    refine ⟨fun h0 => hQ _ _ _ hw hag (h.1 h0), fun i hi => ?_⟩
    have hy := h.2 i hi
    obtain ⟨hun, o, ho, hall⟩ := mem_ready.1 hi
    unfold yOp at hy
    simp only [ho] at hy
    obtain ⟨v, hY, hK⟩ := hy
    have hs := fun cs b => Region.noSelect_spec hsel i o cs b ho
    have hlt : i < listed.size := by
      rcases Nat.lt_or_ge i listed.size with h' | h'
      · exact h'
      · simp [Array.getElem?_eq_none h'] at hun
    -- on behind an operation whose slot is not loose
    have on : ∀ (w' : World), Below w.heap.size w w' → (∀ d ∈ H, o.dst ≠ some d) → wpAny P md ops Q' fuel (listed.setIfInBounds i true) (a'.put o.dst v) w' := fun w' hb hd =>
      any_of_Y hsel hQ fuel _ _ _ w' (hw.trans (hb.mono hw.size)) (hag.put _ _) (fun d h2 => by rw [put_size]; exact hsz d h2) (fun k ok d hk hlk hdk hdH => by
        rw [eval_put_ne (hd d hdH)]
        by_cases e : i = k
        · subst e
          rw [ho] at hk
          cases hk
          exact absurd hdk (hd d hdH)
        · rw [getD_set_ne false e] at hlk
          exact hL _ _ _ _ (hinv k ok d hk hlk hdk hdH) hb) hK
    obtain ⟨n, hn⟩ : ∃ n, w = Grow W0 n := ⟨w, grow_of hw⟩
    unfold wpOp
    simp only [ho]
    rcases hY with ⟨h1, h2, h3, h4⟩ | ⟨h1, h3, h4, h5⟩ | ⟨h1, h3, h2, d, h4, h5, h6⟩ | ⟨h1, h3, h4, s, e, o', h5, h6, h7, h8, h9, h10, h11⟩
    · rw [hag.wanted (fun d hd hg => h3 d hd (looks_guard hg)), h1, if_neg (by simp)]
      subst h2
      exact on w (Below.refl _ _) h4
    · rw [hag.wanted (fun d hd hg => h3 d hd (looks_guard hg)), h1, if_pos rfl]
      refine Or.inl ?_
      have h6 := h5 n
      unfold Oper.quietAt at h6
      rw [← hag.exec hs h3, ← hn] at h6
      unfold Oper.wp
      generalize (execOp a'.eval o).run P w = r at *
      cases r with
      | ok x w' =>
        cases x <;> simp only [Oper.quietUpon] at h6 <;> simp only [Oper.upon]
        case value u =>
          obtain ⟨rfl, rfl⟩ := h6
          exact on _ (Below.refl _ _) h4
        case skip =>
          obtain ⟨rfl, rfl⟩ := h6
          exact on _ (Below.refl _ _) h4
        case enter f args =>
          obtain ⟨rfl, hc⟩ := h6
          refine hc.mono ?_
          rintro e w'' ⟨rfl, d, rfl⟩
          exact on _ (grow_below _ _) h4
      | halt x w' => simp only [Oper.quietUpon] at h6
    · rw [hag.wanted (fun d hd hg => h3 d hd (looks_guard hg)), h1, if_pos rfl]
      refine Or.inl ?_
      subst h2
      have go : ∀ w'' u, Below w.heap.size w w'' → L d u w'' → wpAny P md ops Q' fuel (listed.setIfInBounds i true) (a'.put o.dst u) w'' := fun w'' u hb hLu => by
        rw [h4]
        rw [h4] at hK
        refine any_of_Y hsel hQ fuel _ _ _ w'' (hw.trans (hb.mono hw.size)) (hag.putH h5 undef u) (fun d h2 => by rw [put_size]; exact hsz d h2) (fun k ok d' hk hlk hdk hdH => ?_) hK
        by_cases e : d' = d
        · subst e
          rw [eval_put_same (hsz _ hdH)]
          exact hLu
        · rw [eval_put_ne (fun q => e (by cases q; rfl))]
          by_cases e2 : i = k
          · subst e2
            rw [ho] at hk
            cases hk
            rw [h4] at hdk
            cases hdk
            exact absurd rfl e
          · rw [getD_set_ne false e2] at hlk
            exact hL _ _ _ _ (hinv k ok d' hk hlk hdk hdH) hb
      rcases h6 n with ⟨f, args, h7, h8⟩ | ⟨u, w2, h7, h8, h9⟩
      · rw [← hag.exec hs h3, ← hn] at h7
        unfold Oper.wp
        rw [h7]
        simp only [Oper.upon]
        rw [← hn] at h8
        refine h8.mono ?_
        rintro e w'' ⟨u, rfl, hb, hLu⟩
        exact go w'' u hb hLu
      · rw [← hag.exec hs h3, ← hn] at h7
        unfold Oper.wp
        rw [h7]
        simp only [Oper.upon]
        rw [← hn] at h8
        exact go w2 u h8 h9
    · rw [hag.wanted h3, h1, if_pos rfl]
      refine Or.inl ?_
      have hLs := hinv _ _ _ h8 (hall e h6 h7) h9 h5
      have hx : execOp a'.eval o = execOp (ovr a s (a'.eval (.tmp s))) o := execOp_congr o hs fun y hy => by
        cases y with
        | tmp t =>
          show a'.eval (.tmp t) = (if t = s then a'.eval (.tmp s) else a.eval (.tmp t))
          by_cases q : t = s
          · rw [if_pos q, q]
          · rw [if_neg q]
            exact hag.eval (fun d hd q2 => q (by cases q2; exact h10 t hd (mem_looks hy)))
        | _ => rfl
      have h12 := h11 n (a'.eval (.tmp s)) (by rw [← hn]; exact hLs)
      rw [← hx, ← hn] at h12
      unfold Oper.wp
      rw [h12]
      simp only [Oper.upon]
      exact on w (Below.refl _ _) h4
/-- the region's law -/
theorem wp_region_loose {id : Nat} {Q : Exit → Act → World → Prop} {a : Act} {w : World} {l : List Oper} (hm : P.follows .mixedOrders = true) (hB : Region.lexB .any l.toArray = true) (hw : Below W0.heap.size W0 w) (hsz : ∀ d ∈ H, d < a.tmps.size)
    (h : lexY (RY P .any l.toArray W0 H L) (fun a1 => ∀ a' w', Below W0.heap.size W0 w' → Agree H a1 a' → Q .normal a' w') l a) : (Code.region id l.toArray true).wp P Q a w := by
  simp only [Region.lexB, Bool.and_eq_true] at hB
  refine wp_region_any hm (any_of_Y hL hB.1 (Qr := fun a1 => ∀ a' w', Below W0.heap.size W0 w' → Agree H a1 a' → Q .normal a' w') (fun a1 a' w' hb hag hq => hq a' w' hb hag) _ _ a a _ ?_ ⟨rfl, rfl, fun _ _ => rfl⟩ hsz ?_ ?_)
  · exact hw.drew
  · intro i o d _ hl
    exfalso
    rw [Array.getD_eq_getD_getElem?, Array.getElem?_replicate] at hl
    split at hl <;> simp at hl
  · have := anyY_lex (md := .any) (RY_put (P := P) (W0 := W0) (H := H) (L := L) hB.1) l 0 (Array.replicate l.toArray.size false) a (by simp) (by simpa using hB.2) h
    simpa using this
end


def notB (H l : List Nat) : Bool := H.all fun d => !(l.contains d)
theorem notB_of {H l : List Nat} (h : notB H l = true) : ∀ d ∈ H, d ∉ l := by
  intro d hd hl
  have := (List.all_eq_true.1 h) d hd
  simp [hl] at this
def dstB (H : List Nat) (o : Oper) : Bool := H.all fun d => !(o.dst == some d)
theorem dstB_of {H : List Nat} {o : Oper} (h : dstB H o = true) : ∀ d ∈ H, o.dst ≠ some d := by
  intro d hd hl
  have := (List.all_eq_true.1 h) d hd
  simp [hl] at this
def inB (N : Nat) (o : Oper) : Bool := match o.dst with
  | some d => decide (d < N)
  | none => false
theorem inB_of {N : Nat} {o : Oper} (h : inB N o = true) : ∃ d, o.dst = some d ∧ d < N := by
  unfold inB at h
  cases hd : o.dst with
  | none => rw [hd] at h; cases h
  | some d => rw [hd] at h; exact ⟨d, rfl, of_decide_eq_true h⟩
def depB (md : Region.Mode) (ops : Array Oper) (H : List Nat) (s : Nat) (o : Oper) : Bool :=
  notB H (guardSlot ops o) && dstB H o && H.contains s && (H.all fun d => !((o.looksAt ops).contains d) || d == s) &&
  o.after.any fun e => Region.binds md e && (match ops[e.on]? with | some o' => o'.dst == some s | none => false)

section
variable {P : Program} {md : Region.Mode} {ops : Array Oper} {W0 : World} {H : List Nat} {L : Nat → Value → World → Prop} {Q : Act → Prop} {o : Oper} {rest : List Oper} {a a2 : Act}
theorem lexY_quiet (N : Nat) (hsz : a.tmps.size = N) (hB : (notB H (o.looksAt ops) && dstB H o && inB N o) = true) (hw : Region.wanted o (yielded ops a.tmps) = true)
    (h : ∀ n (K : Act → Prop), K a2 → o.quiet P a (fun X => ∃ d, X = Grow (Grow W0 n) d) K) (hk : lexY (RY P md ops W0 H L) Q rest a2) : lexY (RY P md ops W0 H L) Q (o :: rest) a := by
  simp only [Bool.and_eq_true] at hB
  obtain ⟨⟨h1, h2⟩, h3⟩ := hB
  obtain ⟨d, hd, hlt⟩ := inB_of h3
  have hl : d < a.tmps.size := by rw [hsz]; exact hlt
  obtain ⟨v, _, hv⟩ := h W0 (fun a' => a' = a2) rfl
  refine ⟨v, Or.inr (Or.inl ⟨hw, notB_of h1, dstB_of h2, fun n => ?_⟩), by rw [hv]; exact hk⟩
  obtain ⟨u, hu, hu2⟩ := h n (fun a' => a' = a2) rfl
  have e : u = v := by
    have e1 : (a.put o.dst u).eval (.tmp d) = (a.put o.dst v).eval (.tmp d) := by rw [hu2, hv]
    rw [hd, eval_put_same hl, eval_put_same hl] at e1
    exact e1
  subst e
  exact hu _ ⟨_, grow_self _⟩
theorem lexY_skip (hB : (notB H (o.looksAt ops) && dstB H o) = true) (hw : Region.wanted o (yielded ops a.tmps) = false) (hk : lexY (RY P md ops W0 H L) Q rest (a.put o.dst undef)) : lexY (RY P md ops W0 H L) Q (o :: rest) a := by
  simp only [Bool.and_eq_true] at hB
  exact ⟨undef, Or.inl ⟨hw, rfl, notB_of hB.1, dstB_of hB.2⟩, hk⟩
theorem lexY_loose (d : Nat) (hB : (notB H (o.looksAt ops) && H.contains d && (o.dst == some d)) = true) (hw : Region.wanted o (yielded ops a.tmps) = true) (f : FuncId) (args : Array Value)
    (hx : ∀ w, (execOp a.eval o).run P w = .ok (.enter f args) w) (hc : ∀ n, Calls P f args (Grow W0 n) (fun e w' => ∃ u, e = .returned u ∧ Below (Grow W0 n).heap.size (Grow W0 n) w' ∧ L d u w'))
    (ha : a.put o.dst undef = a2) (hk : lexY (RY P md ops W0 H L) Q rest a2) : lexY (RY P md ops W0 H L) Q (o :: rest) a := by
  simp only [Bool.and_eq_true] at hB
  obtain ⟨⟨h1, h2⟩, h3⟩ := hB
  refine ⟨undef, Or.inr (Or.inr (Or.inl ⟨hw, notB_of h1, rfl, d, by simpa using h3, by simpa using h2, fun n => Or.inl ⟨f, args, hx _, hc n⟩⟩)), by rw [ha]; exact hk⟩
theorem lexY_made (d : Nat) (hB : (notB H (o.looksAt ops) && H.contains d && (o.dst == some d)) = true) (hw : Region.wanted o (yielded ops a.tmps) = true)
    (hx : ∀ n, ∃ u w', (execOp a.eval o).run P (Grow W0 n) = .ok (.value u) w' ∧ Below (Grow W0 n).heap.size (Grow W0 n) w' ∧ L d u w')
    (ha : a.put o.dst undef = a2) (hk : lexY (RY P md ops W0 H L) Q rest a2) : lexY (RY P md ops W0 H L) Q (o :: rest) a := by
  simp only [Bool.and_eq_true] at hB
  obtain ⟨⟨h1, h2⟩, h3⟩ := hB
  refine ⟨undef, Or.inr (Or.inr (Or.inl ⟨hw, notB_of h1, rfl, d, by simpa using h3, by simpa using h2, fun n => Or.inr (hx n)⟩)), by rw [ha]; exact hk⟩
theorem lexY_dep (s : Nat) (v : Value) (hB : depB md ops H s o = true) (hw : Region.wanted o (yielded ops a.tmps) = true)
    (hx : ∀ n u, L s u (Grow W0 n) → (execOp (ovr a s u) o).run P (Grow W0 n) = .ok (.value v) (Grow W0 n))
    (ha : a.put o.dst v = a2) (hk : lexY (RY P md ops W0 H L) Q rest a2) : lexY (RY P md ops W0 H L) Q (o :: rest) a := by
  unfold depB at hB
  simp only [Bool.and_eq_true, List.any_eq_true, Array.any_eq_true] at hB
  obtain ⟨⟨⟨⟨h1, h2⟩, h3⟩, h4⟩, i, hi, h5, h6⟩ := hB
  refine ⟨v, Or.inr (Or.inr (Or.inr ⟨hw, notB_of h1, dstB_of h2, s, o.after[i], ?_⟩)), by rw [ha]; exact hk⟩
  cases ho : ops[o.after[i].on]? with
  | none => rw [ho] at h6; cases h6
  | some o' =>
    rw [ho] at h6
    refine ⟨o', by simpa using h3, by simp, h5, rfl, by simpa using h6, fun d hd hl => ?_, hx⟩
    have := (List.all_eq_true.1 h4) d hd
    simp [hl] at this
    exact this
end
theorem Agree.one {d : Nat} {a a' : Act} (h : Agree [d] a a') : ∃ u, a' = a.put (some d) u := by
  refine ⟨a'.eval (.tmp d), ?_⟩
  obtain ⟨h1, h2, h3⟩ := h
  cases a with
  | mk t l =>
    cases a' with
    | mk t' l' =>
      simp only at h1 h2 h3
      subst h1
      simp only [Act.put, Act.eval]
      congr 1
      apply Array.ext_getElem?
      intro i
      rw [Array.getElem?_setIfInBounds]
      by_cases e : d = i
      · subst e
        rw [if_pos rfl]
        split
        · rename_i hl
          rw [Array.getD_eq_getD_getElem?, Array.getElem?_eq_getElem (by omega)]; rfl
        · rename_i hl
          rw [Array.getElem?_eq_none (by omega)]
      · rw [if_neg e]
        exact h3 i (by simpa using fun q => e q.symm)
theorem Agree.two {d e : Nat} {a a' : Act} (h : Agree [d, e] a a') : ∃ u v, a' = (a.put (some d) u).put (some e) v := by
  obtain ⟨h1, h2, h3⟩ := h
  have hb : Agree [e] (a.put (some d) (a'.eval (.tmp d))) a' := by
    refine ⟨h1, by rw [put_size]; exact h2, fun s hs => ?_⟩
    simp only [Act.put, Array.getElem?_setIfInBounds]
    by_cases q : d = s
    · subst q
      rw [if_pos rfl]
      split
      · rename_i hl
        simp only [Act.eval]
        rw [Array.getD_eq_getD_getElem?, Array.getElem?_eq_getElem (by omega)]; rfl
      · rename_i hl
        rw [Array.getElem?_eq_none (by omega)]
    · rw [if_neg q]
      exact h3 s (by simp only [List.mem_cons, List.not_mem_nil, or_false] at hs ⊢; rintro (r | r); exact q r.symm; exact hs r)
  obtain ⟨v, hv⟩ := hb.one
  exact ⟨_, v, hv⟩
end Go.Proofs.Ytnbfnlpepnbppaa.LM
