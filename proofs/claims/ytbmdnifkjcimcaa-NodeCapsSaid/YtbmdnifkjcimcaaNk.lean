/-
  The statements' great; the document's Of (a node as texts), walked.
-/
import Derived.Test.YtbmdnifkjcimcaaNj
import Derived.Test.YtbmdnifkjcimcaaAppB
import Derived.Test.YtbmdnifkjcimcaaOwn
import Derived.Deep.RegionLaw
namespace Go.Proofs.Ytbmdnifkjcimcaa
set_option linter.unusedVariables false
set_option linter.unusedSimpArgs false
open Go.RowKit

/-- is a node more than is gone through? -/
def greatB (d : Nd) : Bool := decide (600 < d.kn ∨ 600 < d.vn ∨ 600 < d.cn) || (anyB (fun i => decide (200 < d.KL i)) d.kn || anyB (fun i => decide (200 < d.VL i)) d.vn)
theorem great_no {d : Nd} (h : greatB d = false) : d.kn ≤ 600 ∧ d.vn ≤ 600 ∧ d.cn ≤ 600 ∧ (∀ i, i < d.kn → d.KL i ≤ 200) ∧ (∀ i, i < d.vn → d.VL i ≤ 200) := by
  unfold greatB at h
  simp only [Bool.or_eq_false_iff, decide_eq_false_iff_not] at h
  obtain ⟨h1, h2, h3⟩ := h
  refine ⟨by omega, by omega, by omega, fun i hi => ?_, fun i hi => ?_⟩
  · have t := anyB_no h2 i hi
    simp at t; omega
  · have t := anyB_no h3 i hi
    simp at t; omega
set_option maxRecDepth 8000 in
set_option maxHeartbeats 4000000 in
theorem great_any (lf : Bool) (KA VA CA : Option Addr) (kn kc vn vc cn cc : Nat) (KL VL : Nat → Nat) (K V : Nat → Nat → Int) (C : Nat → Int) (w : World) (m1 : kn ≤ maxLen) (m2 : vn ≤ maxLen) (m3 : cn ≤ maxLen) (hK : RsIs w KA kn KL K) (hV : RsIs w VA vn VL V) : Calls Try.prog 11 #[.agg #[.bool lf, .slice KA kn kc, .slice VA vn vc, .slice CA cn cc]] w fun r w' => r = .returned (.bool (greatB ⟨lf, kn, KL, K, vn, VL, V, cn, C⟩)) ∧ Below w.heap.size w w' := by
  unfold maxLen at m1 m2 m3
  have HE : greatB ⟨lf, kn, KL, K, vn, VL, V, cn, C⟩ = (decide (600 < kn ∨ 600 < vn ∨ 600 < cn) || (anyB (fun i => decide (200 < KL i)) kn || anyB (fun i => decide (200 < VL i)) vn)) := rfl
  generalize greatB ⟨lf, kn, KL, K, vn, VL, V, cn, C⟩ = q at *
  replace HE := Lib.hid HE
  replace hK := Lib.hid hK
  replace hV := Lib.hid hV
  by_cases c1 : 600 < kn
  · have d1 : decide ((kn : Int) > 600) = true := decide_eq_true (by omega)
    go_enter Try.func11, Try.ntmps11
    go_wp2
    go_ret
    exact ⟨ret_b (by rw [HE.out, decide_eq_true (Or.inl c1)]; rfl), by (repeat (first | exact Below.refl _ _ | assumption | refine below_drewN ?_ _ | refine bel_grow ?_ _ | refine Below.drew ?_ | refine bel_alloc ?_ _ | refine bel_set ?_ (by first | exact Nat.le_refl _ | (simp; done) | (simp; omega) | omega) _ | refine bel_trans ?_ (by assumption)))⟩
  have d1 : decide ((kn : Int) > 600) = false := decide_eq_false (by omega)
  by_cases c2 : 600 < vn
  · have d2 : decide ((vn : Int) > 600) = true := decide_eq_true (by omega)
    go_enter Try.func11, Try.ntmps11
    go_wp2
    go_ret
    exact ⟨ret_b (by rw [HE.out, decide_eq_true (Or.inr (Or.inl c2))]; rfl), by (repeat (first | exact Below.refl _ _ | assumption | refine below_drewN ?_ _ | refine bel_grow ?_ _ | refine Below.drew ?_ | refine bel_alloc ?_ _ | refine bel_set ?_ (by first | exact Nat.le_refl _ | (simp; done) | (simp; omega) | omega) _ | refine bel_trans ?_ (by assumption)))⟩
  have d2 : decide ((vn : Int) > 600) = false := decide_eq_false (by omega)
  by_cases c3 : 600 < cn
  · have d3 : decide ((cn : Int) > 600) = true := decide_eq_true (by omega)
    go_enter Try.func11, Try.ntmps11
    go_wp2
    go_ret
    exact ⟨ret_b (by rw [HE.out, decide_eq_true (Or.inr (Or.inr c3))]; rfl), by (repeat (first | exact Below.refl _ _ | assumption | refine below_drewN ?_ _ | refine bel_grow ?_ _ | refine Below.drew ?_ | refine bel_alloc ?_ _ | refine bel_set ?_ (by first | exact Nat.le_refl _ | (simp; done) | (simp; omega) | omega) _ | refine bel_trans ?_ (by assumption)))⟩
  have d3 : decide ((cn : Int) > 600) = false := decide_eq_false (by omega)
  have hx : decide (600 < kn ∨ 600 < vn ∨ 600 < cn) = false := decide_eq_false (by omega)
  have HE2 := HE.out
  rw [hx, Bool.false_or] at HE2
  replace HE := Lib.hid HE2
  clear hx HE2
  go_enter Try.func11, Try.ntmps11
  go_wp2
  go_loop [26] (fun i => ∃ m : Nat, m ≤ kn ∧ i = .int .i64 m ∧ Hid (∀ j, j < m → (fun i => decide (200 < KL i)) j = false)) (fun i => kn - (intOf i).toNat)
  case atStart => exact ⟨0, by omega, rfl, fun j h => by omega⟩
  case round =>
    obtain ⟨m, hm, rfl, hx⟩ := hrel
    by_cases hlt : m < kn
    · obtain ⟨b, o, B, C0, rfl, hbl, hc, _, _, _⟩ := hK.out.at hlt
      generalize hz : KL m = z at *
      replace hz := Lib.hid hz
      have hbox : ¬ b = w.heap.size := by omega
      by_cases hg : 200 < z
      · have e1 : decide ((z : Int) > 200) = true := decide_eq_true (by omega)
        go_wp2
        go_ret
        exact ⟨ret_b (by rw [HE.out, anyB_true (k := m) (by rw [hz.out]; exact decide_eq_true hg) hlt]; rfl), by (repeat (first | exact Below.refl _ _ | assumption | refine below_drewN ?_ _ | refine bel_grow ?_ _ | refine Below.drew ?_ | refine bel_alloc ?_ _ | refine bel_set ?_ (by first | exact Nat.le_refl _ | (simp; done) | (simp; omega) | omega) _ | refine bel_trans ?_ (by assumption)))⟩
      · have e1 : decide ((z : Int) > 200) = false := decide_eq_false (by omega)
        go_wp2
        go_round
        case rel => exact ⟨m + 1, by omega, by go_num, fun j hj => by
          by_cases e : j = m
          · subst e; show decide (200 < KL j) = false; rw [hz.out]; exact decide_eq_false hg
          · exact hx.out j (by omega)⟩
        case measure => simp [intOf]; omega
    · obtain rfl : m = kn := by omega
      have HF := Lib.hid (anyB_false hx.out)
      clear hx
      go_wp2
      go_loop [37] (fun i => ∃ m' : Nat, m' ≤ vn ∧ i = .int .i64 m' ∧ Hid (∀ j, j < m' → (fun i => decide (200 < VL i)) j = false)) (fun i => vn - (intOf i).toNat)
      case atStart => exact ⟨0, by omega, rfl, fun j h => by omega⟩
      case round =>
        obtain ⟨m', hm', rfl, hx⟩ := hrel
        by_cases hlt' : m' < vn
        · obtain ⟨b, o, B, C0, rfl, hbl, hc, _, _, _⟩ := hV.out.at hlt'
          generalize hz : VL m' = z at *
          replace hz := Lib.hid hz
          have hbox : ¬ b = w.heap.size := by omega
          by_cases hg : 200 < z
          · have e1 : decide ((z : Int) > 200) = true := decide_eq_true (by omega)
            go_wp2
            go_ret
            exact ⟨ret_b (by rw [HE.out, HF.out, anyB_true (k := m') (by rw [hz.out]; exact decide_eq_true hg) hlt']; rfl), by (repeat (first | exact Below.refl _ _ | assumption | refine below_drewN ?_ _ | refine bel_grow ?_ _ | refine Below.drew ?_ | refine bel_alloc ?_ _ | refine bel_set ?_ (by first | exact Nat.le_refl _ | (simp; done) | (simp; omega) | omega) _ | refine bel_trans ?_ (by assumption)))⟩
          · have e1 : decide ((z : Int) > 200) = false := decide_eq_false (by omega)
            go_wp2
            go_round
            case rel => exact ⟨m' + 1, by omega, by go_num, fun j hj => by
              by_cases e : j = m'
              · subst e; show decide (200 < VL j) = false; rw [hz.out]; exact decide_eq_false hg
              · exact hx.out j (by omega)⟩
            case measure => simp [intOf]; omega
        · obtain rfl : m' = vn := by omega
          have HF2 := Lib.hid (anyB_false hx.out)
          clear hx
          go_wp2
          go_ret
          exact ⟨ret_b (by rw [HE.out, HF.out, HF2.out]; rfl), by (repeat (first | exact Below.refl _ _ | assumption | refine below_drewN ?_ _ | refine bel_grow ?_ _ | refine Below.drew ?_ | refine bel_alloc ?_ _ | refine bel_set ?_ (by first | exact Nat.le_refl _ | (simp; done) | (simp; omega) | omega) _ | refine bel_trans ?_ (by assumption)))⟩

/-- w' is w with new blocks, and block bo turned -/
def Upd (w w' : World) (bo : Nat) : Prop := Below bo w w' ∧ (∀ g, g ≠ bo → g < w.heap.size → w'.heap[g]? = w.heap[g]?)
theorem Upd.refl (w : World) (bo : Nat) : Upd w w bo := ⟨Below.refl _ _, fun _ _ _ => rfl⟩
theorem Upd.low {w w1 w2 : World} {bo B : Nat} (h : Upd w w1 bo) (hb : Below B w1 w2) (h1 : w.heap.size ≤ B) (h2 : bo ≤ B) : Upd w w2 bo :=
  ⟨h.1.trans (hb.mono h2), fun g hg hl => (hb.block g (by omega)).trans (h.2 g hg hl)⟩
theorem Upd.set {w w1 : World} {bo : Nat} (h : Upd w w1 bo) (i : Nat) (u : Value) : Upd w (w1.setCell ⟨bo, i, none⟩ u) bo :=
  ⟨h.1.setCell (Nat.le_refl _) u, fun g hg hl => (Below.heap_setCell w1 ⟨bo, i, none⟩ u g hg).trans (h.2 g hg hl)⟩
theorem Upd.trans {w w1 w2 : World} {bo : Nat} (h : Upd w w1 bo) (k : Upd w1 w2 bo) (hbo : bo < w.heap.size) : Upd w w2 bo := by
  have hs : w.heap.size ≤ w1.heap.size := h.1.size
  exact ⟨h.1.trans k.1, fun g hg hl => (k.2 g hg (by omega)).trans (h.2 g hg hl)⟩
theorem SlIs.upd {w w' : World} {A : Option Addr} {n bo : Nat} {f : Nat → Value} (h : SlIs w A n f) (hA : ∀ b o, A = some ⟨b, o, none⟩ → b ≠ bo) (hu : Upd w w' bo) : SlIs w' A n f := fun hn => by
  obtain ⟨b, o, rfl, hl, hc⟩ := h hn
  have hb := hu.2 b (hA b o rfl) hl
  have hsz := hu.1.size
  refine ⟨b, o, rfl, by omega, fun j hj => ?_⟩
  rw [← hc j hj]
  unfold World.cell?
  rw [hb]
theorem SlIs.far {w : World} {A : Option Addr} {n : Nat} {f : Nat → Value} (h : SlIs w A n f) {p : Addr} (hA : ∀ b o, A = some ⟨b, o, none⟩ → b ≠ p.block) (u : Value) : SlIs (w.setCell p u) A n f := fun hn => by
  obtain ⟨b, o, rfl, hl, hc⟩ := h hn
  exact ⟨b, o, rfl, by simpa using hl, fun j hj => keeps (by dsimp only; exact hA b o rfl) (hc j hj)⟩
theorem OwnV.far {w : World} {base : Nat} {e : TypeId} {v : Value} {n : Nat} {f : Nat → Value} (h : OwnV w base e v n f) {p : Addr} (hp : p.block < base) (u : Value) : OwnV (w.setCell p u) base e v n f := by
  obtain ⟨h1, h2⟩ := h
  refine ⟨h1, ?_⟩
  rcases h2 with h2 | ⟨g, cap, cur, e1, hg, hh, rest⟩
  · exact Or.inl h2
  · exact Or.inr ⟨g, cap, cur, e1, hg, (Below.heap_setCell w p u g (by omega)).trans hh, rest⟩
theorem OwnV.slis2 {w : World} {base : Nat} {e : TypeId} {v : Value} {n : Nat} {f : Nat → Value} (h : OwnV w base e v n f) : ∃ A c, v = .slice A n c ∧ SlIs w A n f ∧ ∀ b o, A = some ⟨b, o, none⟩ → base ≤ b := by
  obtain ⟨A, c, e1, _, _, hs⟩ := h.slis
  subst e1
  refine ⟨A, c, rfl, hs, fun b o e2 => ?_⟩
  obtain ⟨_, h2⟩ := h
  rcases h2 with ⟨e3, _⟩ | ⟨g, cap, cur, e3, hg, _⟩
  · subst e2; cases e3
  · subst e2; cases e3; exact hg
end Go.Proofs.Ytbmdnifkjcimcaa
