/-
  sort.Find, sort.Search over the node's closures; node.Place, node.Kid, walked.
-/
import Derived.Test.YtbmdnifkjcimcaaJ5
namespace Go.Proofs.Ytbmdnifkjcimcaa
set_option linter.unusedVariables false
set_option linter.unusedSimpArgs false
open Go.RowKit

/-- where Find stops -/
def FindPost (g : Nat → Int) (n : Nat) (r : Ending) : Prop := ∃ i : Nat, i ≤ n ∧ (i = 0 ∨ 0 < g (i - 1)) ∧ (i = n ∨ g i ≤ 0) ∧ r = .returned (.tuple #[.int .i64 i, .bool (decide (i < n) && (g i == 0))])
def SearchPost (f : Nat → Bool) (n : Nat) (r : Ending) : Prop := ∃ i : Nat, i ≤ n ∧ (i = 0 ∨ f (i - 1) = false) ∧ (i = n ∨ f i = true) ∧ r = .returned (.int .i64 i)
theorem half_nat (i j : Nat) : ((i : Int) + (j : Int)) / 2 = (((i + j) / 2 : Nat) : Int) := by omega

set_option maxRecDepth 8000 in
set_option maxHeartbeats 2000000 in
theorem find_any (cap : Array Value) (g : Nat → Int) (n : Nat) (w : World) (hn : n ≤ 1000000)
    (hcall : ∀ k, k < n → ∀ W, Below w.heap.size w W → Calls Try.prog 28 (#[.int .i64 k] ++ cap) W fun r w' => r = .returned (.int .i64 (g k)) ∧ Below W.heap.size W w') :
    Calls Try.prog 27 #[.int .i64 n, .func (Fn.func 28) #[] cap] w fun r w' => FindPost g n r ∧ Below w.heap.size w w' := by
  replace hcall := Lib.hid hcall
  go_enter Try.func27, Try.ntmps27
  go_wp2
  go_loopw [4, 6] (fun u v wr => ∃ i j : Nat, i ≤ j ∧ j ≤ n ∧ u = .int .i64 i ∧ v = .int .i64 j ∧ Hid (i = 0 ∨ 0 < g (i - 1)) ∧ Hid (j = n ∨ g j ≤ 0) ∧ Hid (Below w.heap.size w wr)) (fun u v _ => ((intOf v) - (intOf u)).toNat)
  case atStart => exact ⟨0, n, by omega, by omega, rfl, rfl, Or.inl rfl, Or.inl rfl, Below.refl _ _⟩
  case round =>
    obtain ⟨i, j, hij, hjn, rfl, rfl, hi, hj, hb⟩ := hrel
    by_cases hlt : i < j
    · have hh := half_nat i j
      generalize hm : (i + j) / 2 = m at *
      have m1 : i ≤ m := by omega
      have m2 : m < j := by omega
      clear hm
      have HC := Lib.hid (hcall.out m (by omega) wr hb.out)
      cases hz : decide (0 < g m)
      · have hz' := Lib.hid hz
        generalize hgm : g m = z at *
        replace hgm := Lib.hid hgm
        clear hz
        have hz := hz'.out
        go_wp2_with fail
        refine HC.out.mono ?_
        rintro e w2 ⟨rfl, hb2⟩
        go_wp2
        go_roundw
        case rel => exact ⟨i, m, m1, by omega, rfl, rfl, hi.out, Or.inr (by have t := hz'.out; rw [hgm.out]; simp at t; exact t), bel_eld hb.out hb2⟩
        case measure => simp [intOf]; omega
      · have hz' := Lib.hid hz
        generalize hgm : g m = z at *
        replace hgm := Lib.hid hgm
        clear hz
        have hz := hz'.out
        go_wp2_with fail
        refine HC.out.mono ?_
        rintro e w2 ⟨rfl, hb2⟩
        go_wp2
        go_roundw
        case rel => exact ⟨m + 1, j, by omega, by omega, by go_num, rfl, Or.inr (by have t := hz'.out; rw [Nat.add_sub_cancel, hgm.out]; simp at t; exact t), hj.out, bel_eld hb.out hb2⟩
        case measure => simp [intOf]; omega
    · obtain rfl : i = j := by omega
      by_cases hin : i < n
      · have d1 : decide ((i : Int) < n) = true := decide_eq_true (by omega)
        have HC := Lib.hid (hcall.out i hin wr hb.out)
        have hx := hi.out
        have hy := hj.out
        have hd : decide (i < n) = true := decide_eq_true hin
        replace hx := Lib.hid hx
        replace hy := Lib.hid hy
        replace hd := Lib.hid hd
        clear hi hj
        go_wp2_with fail
        refine HC.out.mono ?_
        rintro e w2 ⟨rfl, hb2⟩
        go_wp2
        go_ret2
        exact ⟨⟨i, hjn, hx.out, hy.out, by rw [hd.out]; rfl⟩, bel_eld hb.out hb2⟩
      · have d1 : decide ((i : Int) < n) = false := decide_eq_false (by omega)
        have hd := Lib.hid (show decide (i < n) = false from decide_eq_false hin)
        have hx := Lib.hid hi.out
        have hy := Lib.hid hj.out
        clear hi hj hcall
        go_wp2
        go_ret2
        exact ⟨⟨i, hjn, hx.out, hy.out, by rw [hd.out]; rfl⟩, hb.out⟩
set_option maxRecDepth 8000 in
set_option maxHeartbeats 2000000 in
theorem search_any (cap : Array Value) (f : Nat → Bool) (n : Nat) (w : World) (hn : n ≤ 1000000)
    (hcall : ∀ k, k < n → ∀ W, Below w.heap.size w W → Calls Try.prog 31 (#[.int .i64 k] ++ cap) W fun r w' => r = .returned (.bool (f k)) ∧ Below W.heap.size W w') :
    Calls Try.prog 30 #[.int .i64 n, .func (Fn.func 31) #[] cap] w fun r w' => SearchPost f n r ∧ Below w.heap.size w w' := by
  replace hcall := Lib.hid hcall
  go_enter Try.func30, Try.ntmps30
  go_wp2
  go_loopw [5, 6] (fun u v wr => ∃ i j : Nat, i ≤ j ∧ j ≤ n ∧ u = .int .i64 i ∧ v = .int .i64 j ∧ Hid (i = 0 ∨ f (i - 1) = false) ∧ Hid (j = n ∨ f j = true) ∧ Hid (Below w.heap.size w wr)) (fun u v _ => ((intOf v) - (intOf u)).toNat)
  case atStart => exact ⟨0, n, by omega, by omega, rfl, rfl, Or.inl rfl, Or.inl rfl, Below.refl _ _⟩
  case round =>
    obtain ⟨i, j, hij, hjn, rfl, rfl, hi, hj, hb⟩ := hrel
    by_cases hlt : i < j
    · have hh := half_nat i j
      generalize hm : (i + j) / 2 = m at *
      have m1 : i ≤ m := by omega
      have m2 : m < j := by omega
      clear hm
      have HC := Lib.hid (hcall.out m (by omega) wr hb.out)
      cases hz : f m
      · replace hz := Lib.hid hz
        go_wp2_with fail
        refine HC.out.mono ?_
        rintro e w2 ⟨rfl, hb2⟩
        rw [hz.out]
        go_wp2
        go_roundw
        case rel => exact ⟨m + 1, j, by omega, by omega, by go_num, rfl, Or.inr (by rw [Nat.add_sub_cancel]; exact hz.out), hj.out, bel_eld hb.out hb2⟩
        case measure => simp [intOf]; omega
      · replace hz := Lib.hid hz
        go_wp2_with fail
        refine HC.out.mono ?_
        rintro e w2 ⟨rfl, hb2⟩
        rw [hz.out]
        go_wp2
        go_roundw
        case rel => exact ⟨i, m, m1, by omega, rfl, rfl, hi.out, Or.inr hz.out, bel_eld hb.out hb2⟩
        case measure => simp [intOf]; omega
    · obtain rfl : i = j := by omega
      have hx := Lib.hid hi.out
      have hy := Lib.hid hj.out
      clear hi hj hcall
      go_wp2
      go_ret
      exact ⟨⟨i, hjn, hx.out, hy.out, rfl⟩, hb.out⟩

/-- how a row stands to the i-th key -/
def cmpK (y : Nat → Int) (l : Nat) (KL : Nat → Nat) (K : Nat → Nat → Int) (i : Nat) : Int := cmpB y l (K i) (KL i)
section
set_option maxHeartbeats 1000000 in
theorem place1_any (KA Y : Option Addr) (kn kc l lc i gk gn : Nat) (v0 v2 v3 : Value) (KL : Nat → Nat) (K : Nat → Nat → Int) (y : Nat → Int) (w : World) (hi : i < kn) (hK : RsIs w KA kn KL K) (hY : SlIs w Y l (yV y))
    (g1 : Blk w gk 29 #[.slice Y l lc]) (g2 : Blk w gn 28 #[v0, .slice KA kn kc, v2, v3]) :
    Calls Try.prog 28 #[.int .i64 i, .pointer (some ⟨gk, 0, none⟩), .pointer (some ⟨gn, 0, none⟩)] w fun r w' => r = .returned (.int .i64 (cmpK y l KL K i)) ∧ Below w.heap.size w w' := by
  obtain ⟨b, o, B, C, rfl, hbl, hc, _, _, s1⟩ := hK.at hi
  have HC := Lib.hid (fun d => kcmp_any Y B l lc (KL i) C y (K i) (Grow w d) (hY.below (grow_below w d)) (s1.below (grow_below w d)))
  have x0 : w.cell? ⟨gk, 0, none⟩ = some (.slice Y l lc) := g1.cell 0
  have x1 : w.cell? ⟨gn, 1, none⟩ = some (.slice (some ⟨b, o, none⟩) kn kc) := g2.cell 1
  have y0 := g1.lt
  have y1 := g2.lt
  unfold cmpK
  generalize cmpB y l (K i) (KL i) = z at *
  clear hK hY s1 g1 g2
  go_enter Try.func28, Try.ntmps28
  go_wp2_with fail
  first | (with_reducible refine rgrow2 (by kernel_rfl) (by kernel_rfl) ?_) | (refine rgrow (by kernel_rfl) (by kernel_rfl) ?_)
  repeat (go_big_quiet_step (((go_at_call 29; exact grow_call (HC.out _)))))
  refine wpQuiet_nil ?_
  intro dr
  go_wp2
  go_ret
  exact ⟨rfl, by (repeat (first | exact Below.refl _ _ | assumption | refine below_drewN ?_ _ | refine bel_grow ?_ _ | refine Below.drew ?_ | refine bel_alloc ?_ _ | refine bel_set ?_ (by first | exact Nat.le_refl _ | (simp; done) | (simp; omega) | omega) _ | refine bel_trans ?_ (by assumption)))⟩
set_option maxHeartbeats 1000000 in
theorem kid1_any (KA Y : Option Addr) (kn kc l lc i gk gn : Nat) (v0 v2 v3 : Value) (KL : Nat → Nat) (K : Nat → Nat → Int) (y : Nat → Int) (w : World) (hi : i < kn) (hK : RsIs w KA kn KL K) (hY : SlIs w Y l (yV y))
    (g1 : Blk w gk 29 #[.slice Y l lc]) (g2 : Blk w gn 28 #[v0, .slice KA kn kc, v2, v3]) :
    Calls Try.prog 31 #[.int .i64 i, .pointer (some ⟨gk, 0, none⟩), .pointer (some ⟨gn, 0, none⟩)] w fun r w' => r = .returned (.bool (decide (cmpK y l KL K i < 0))) ∧ Below w.heap.size w w' := by
  obtain ⟨b, o, B, C, rfl, hbl, hc, _, _, s1⟩ := hK.at hi
  have HC := Lib.hid (fun d => kcmp_any Y B l lc (KL i) C y (K i) (Grow w d) (hY.below (grow_below w d)) (s1.below (grow_below w d)))
  have x0 : w.cell? ⟨gk, 0, none⟩ = some (.slice Y l lc) := g1.cell 0
  have x1 : w.cell? ⟨gn, 1, none⟩ = some (.slice (some ⟨b, o, none⟩) kn kc) := g2.cell 1
  have y0 := g1.lt
  have y1 := g2.lt
  unfold cmpK
  generalize cmpB y l (K i) (KL i) = z at *
  clear hK hY s1 g1 g2
  go_enter Try.func31, Try.ntmps31
  go_wp2_with fail
  first | (with_reducible refine rgrow2 (by kernel_rfl) (by kernel_rfl) ?_) | (refine rgrow (by kernel_rfl) (by kernel_rfl) ?_)
  repeat (go_big_quiet_step (((go_at_call 29; exact grow_call (HC.out _)))))
  refine wpQuiet_nil ?_
  intro dr
  go_wp2
  go_ret
  exact ⟨rfl, by (repeat (first | exact Below.refl _ _ | assumption | refine below_drewN ?_ _ | refine bel_grow ?_ _ | refine Below.drew ?_ | refine bel_alloc ?_ _ | refine bel_set ?_ (by first | exact Nat.le_refl _ | (simp; done) | (simp; omega) | omega) _ | refine bel_trans ?_ (by assumption)))⟩
end
set_option maxHeartbeats 1000000 in
theorem place_any (lf : Bool) (KA Y : Option Addr) (kn kc l lc : Nat) (v2 v3 : Value) (hv2 : ∃ A n c, v2 = .slice A n c) (hv3 : ∃ A n c, v3 = .slice A n c) (KL : Nat → Nat) (K : Nat → Nat → Int) (y : Nat → Int) (w : World) (hn : kn ≤ 1000000) (hK : RsIs w KA kn KL K) (hY : SlIs w Y l (yV y)) :
    Calls Try.prog 13 #[.agg #[.bool lf, .slice KA kn kc, v2, v3], .slice Y l lc] w fun r w' => FindPost (cmpK y l KL K) kn r ∧ Below w.heap.size w w' := by
  obtain ⟨A2, n2, c2, rfl⟩ := hv2
  obtain ⟨A3, n3, c3, rfl⟩ := hv3
  have hmf : ∀ (fn : Fn) (first cap : Array Value) (w : World), (Instr.makeFunc fn first cap).run Try.prog w = .ok (.func fn first cap) w := fun _ _ _ _ => rfl
  have HF := Lib.hid (find_any #[.pointer (some ⟨w.heap.size + 1, 0, none⟩), .pointer (some ⟨w.heap.size, 0, none⟩)] (cmpK y l KL K) kn ((w.alloc (.cells #[.bool lf, .slice KA kn kc, .slice A2 n2 c2, .slice A3 n3 c3] 28)).alloc (.cells #[.slice Y l lc] 29)) hn
    (fun i hi W hb => place1_any KA Y kn kc l lc i (w.heap.size + 1) w.heap.size _ _ _ KL K y W hi (hK.below (bel_eld (bel_alloc (bel_alloc (Below.refl _ _) _) _) hb)) (hY.below (bel_eld (bel_alloc (bel_alloc (Below.refl _ _) _) _) hb)) (Blk.kept (Blk.new' (by simp)) hb) (Blk.kept (Blk.alloc (Blk.new _ _ _) _) hb)))
  generalize cmpK y l KL K = g at *
  clear hK hY
  go_enter Try.func13, Try.ntmps13
  go_wp2_with fail
  refine HF.out.mono ?_
  rintro e w2 ⟨⟨i, h1, h2, h3, rfl⟩, hb2⟩
  have hW := Lib.hid (bel_eld (bel_alloc (bel_alloc (Below.refl w.heap.size w) _) _) hb2)
  have hQ := Lib.hid (And.intro h1 (And.intro h2 h3))
  clear h2 h3 hb2 HF
  go_wp2
  go_ret2
  exact ⟨⟨i, hQ.out.1, hQ.out.2.1, hQ.out.2.2, rfl⟩, hW.out⟩
set_option maxHeartbeats 1000000 in
theorem kid_any (lf : Bool) (KA Y : Option Addr) (kn kc l lc : Nat) (v2 v3 : Value) (hv2 : ∃ A n c, v2 = .slice A n c) (hv3 : ∃ A n c, v3 = .slice A n c) (KL : Nat → Nat) (K : Nat → Nat → Int) (y : Nat → Int) (w : World) (hn : kn ≤ 1000000) (hK : RsIs w KA kn KL K) (hY : SlIs w Y l (yV y)) :
    Calls Try.prog 14 #[.agg #[.bool lf, .slice KA kn kc, v2, v3], .slice Y l lc] w fun r w' => SearchPost (fun i => decide (cmpK y l KL K i < 0)) kn r ∧ Below w.heap.size w w' := by
  obtain ⟨A2, n2, c2, rfl⟩ := hv2
  obtain ⟨A3, n3, c3, rfl⟩ := hv3
  have hmf : ∀ (fn : Fn) (first cap : Array Value) (w : World), (Instr.makeFunc fn first cap).run Try.prog w = .ok (.func fn first cap) w := fun _ _ _ _ => rfl
  have HF := Lib.hid (search_any #[.pointer (some ⟨w.heap.size + 1, 0, none⟩), .pointer (some ⟨w.heap.size, 0, none⟩)] (fun i => decide (cmpK y l KL K i < 0)) kn ((w.alloc (.cells #[.bool lf, .slice KA kn kc, .slice A2 n2 c2, .slice A3 n3 c3] 28)).alloc (.cells #[.slice Y l lc] 29)) hn
    (fun i hi W hb => kid1_any KA Y kn kc l lc i (w.heap.size + 1) w.heap.size _ _ _ KL K y W hi (hK.below (bel_eld (bel_alloc (bel_alloc (Below.refl _ _) _) _) hb)) (hY.below (bel_eld (bel_alloc (bel_alloc (Below.refl _ _) _) _) hb)) (Blk.kept (Blk.new' (by simp)) hb) (Blk.kept (Blk.alloc (Blk.new _ _ _) _) hb)))
  generalize (fun i => decide (cmpK y l KL K i < 0)) = g at *
  clear hK hY
  go_enter Try.func14, Try.ntmps14
  go_wp2_with fail
  refine HF.out.mono ?_
  rintro e w2 ⟨⟨i, h1, h2, h3, rfl⟩, hb2⟩
  have hW := Lib.hid (bel_eld (bel_alloc (bel_alloc (Below.refl w.heap.size w) _) _) hb2)
  have hQ := Lib.hid (And.intro h1 (And.intro h2 h3))
  clear h2 h3 hb2 HF
  go_wp2
  go_ret
  exact ⟨⟨i, hQ.out.1, hQ.out.2.1, hQ.out.2.2, rfl⟩, hW.out⟩
end Go.Proofs.Ytbmdnifkjcimcaa
