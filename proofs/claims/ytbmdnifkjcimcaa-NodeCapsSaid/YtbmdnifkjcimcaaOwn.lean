/-
  Rows of bytes of the call's own, by their index.
-/
import Derived.Test.YtbmdnifkjcimcaaJ3
namespace Go.Proofs.Ytbmdnifkjcimcaa
set_option linter.unusedVariables false
set_option linter.unusedSimpArgs false
open Go.RowKit

/-- a row of the call's own, by its index -/
theorem own_row {w : World} {base : Nat} {v : Value} {n : Nat} {d : Nat → Int} (h : OwnB w base v n d) (hn : 0 < n) :
    ∃ g cap f, v = .slice (some ⟨g, 0, none⟩) n cap ∧ base ≤ g ∧ n ≤ cap ∧ cap ≤ maxLen ∧ w.rowIs g 5 cap f ∧ ∀ i, i < n → f i = yV d i := by
  obtain ⟨hl, h2⟩ := h
  rcases h2 with ⟨rfl, rfl⟩ | ⟨g, cap, cur, rfl, hb, hh, h3, h4, h5, h6⟩
  · omega
  · refine ⟨g, cap, fun i => cur[i]?.getD (.int .u8 0), rfl, hb, h3, h4, ⟨cur, hh, by simpa using h5, fun i hi => ?_⟩, fun i hi => ?_⟩
    · have : i < cur.size := by omega
      simp [this]
    · have e : cur.toList[i]? = (yL d n)[i]? := by rw [← h6, List.getElem?_take, if_pos (by omega)]
      have e2 : (yL d n)[i]? = some (yV d i) := by
        have hl2 : i < (yL d n).length := by rw [yL_len]; exact hi
        rw [List.getElem?_eq_getElem hl2, yL_at d n i _ (List.getElem?_eq_getElem hl2)]
      rw [e2, Array.getElem?_toList] at e
      show cur[i]?.getD _ = _
      rw [e]; rfl
theorem yL_get {d : Nat → Int} {n i : Nat} (hi : i < n) : (yL d n)[i]? = some (yV d i) := by
  have hl2 : i < (yL d n).length := by rw [yL_len]; exact hi
  rw [List.getElem?_eq_getElem hl2, yL_at d n i _ (List.getElem?_eq_getElem hl2)]
theorem row_own {w : World} {base g cap n : Nat} {f : Nat → Value} {d : Nat → Int} (h : w.rowIs g 5 cap f) (hf : ∀ i, i < n → f i = yV d i) (hb : base ≤ g) (h1 : n ≤ cap) (h2 : cap ≤ maxLen) :
    OwnB w base (.slice (some ⟨g, 0, none⟩) n cap) n d := by
  obtain ⟨c, hh, hs, hc⟩ := h
  refine ⟨by rw [yL_len]; omega, Or.inr ⟨g, cap, c, rfl, hb, hh, h1, h2, by omega, ?_⟩⟩
  apply List.ext_getElem?
  intro i
  rw [List.getElem?_take]
  split
  · rename_i hi
    rw [yL_get (by omega), Array.getElem?_toList, hc i (by omega), hf i (by omega)]
  · rename_i hi
    rw [List.getElem?_eq_none (by rw [yL_len]; omega)]
/-- how many elements a slice has -/
def lenV : Value → Nat
  | .slice _ n _ => n
  | _ => 0
theorem OwnB.shape {w : World} {base : Nat} {v : Value} {n : Nat} {d : Nat → Int} (h : OwnB w base v n d) : ∃ A c, v = .slice A n c := by
  obtain ⟨A, c, e, _⟩ := h.slis
  exact ⟨A, c, e⟩
theorem conv8 {w : World} {A : Option Addr} {n : Nat} {d : Nat → Int} (h : SlIs w A n (yV d)) (c : Nat) : (convert 29 9 (.slice A n c)).run Try.prog w = .ok (.string (strF d n)) w := conv_str Try.underlying29 Try.underlying5 Try.underlying9 h c
end Go.Proofs.Ytbmdnifkjcimcaa
