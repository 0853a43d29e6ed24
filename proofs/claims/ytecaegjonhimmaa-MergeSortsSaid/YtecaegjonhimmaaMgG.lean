/-
  container/heap's Push, Fix and Pop, walked.
-/
import Derived.Test.YtecaegjonhimmaaMgF
namespace Go.Proofs.Ytecaegjonhimmaa
set_option linter.unusedVariables false
set_option linter.unusedSimpArgs false
open Go.RowKit Go.Shelf

theorem enter_len : ∀ args w, (callFunc 43 args).run Try.prog w = .ok (.enter 43 args) w := enters_of Try.func43 (by kernel_rfl) rfl
theorem enter_push : ∀ args w, (callFunc 47 args).run Try.prog w = .ok (.enter 47 args) w := enters_of Try.func47 (by kernel_rfl) rfl
theorem enter_pop : ∀ args w, (callFunc 46 args).run Try.prog w = .ok (.enter 46 args) w := enters_of Try.func46 (by kernel_rfl) rfl
section
variable {dn : Bool} {H : Hs}
theorem ord_up {m : Nat} {pl : Nat → Nat} (h : Ord dn H m pl) (j : Nat) (hj : j + 1 = m ∨ j = 0) : UpInv dn H m pl j := ⟨fun i h1 h2 _ => h i h1 h2, fun h0 c h1 h2 h3 => by
  have := par_lt h1
  rcases hj with hj | hj
  · omega
  · omega⟩
theorem ord_push {n : Nat} {pl : Nat → Nat} (h : Ord dn H n pl) : UpInv dn H (n + 1) pl n := ⟨fun i h1 h2 h3 => h i h1 (by omega), fun _ c h1 h2 h3 => by have := par_lt h1; omega⟩
theorem ord_pop {n : Nat} {pl : Nat → Nat} (h : Ord dn H (n + 1) pl) : DownInv dn H n (swp pl 0 n) 0 := ⟨fun c h1 h2 h3 => by
  have := par_lt h1
  rw [swp_o (m := c) (by omega) (by omega), swp_o (m := par c) h3 (by omega)]
  exact h c h1 (by omega), fun h0 => absurd h0 (by omega)⟩
end
set_option maxHeartbeats 4000000 in
theorem fix_any (B g cap n : Nat) (dn : Bool) (H : Hs) (pl : Nat → Nat) (h1 : 1 ≤ n) (hn : n ≤ 1000) (w : World) (h : HeIs w B g cap n dn H pl) (hd : DownInv dn H n pl 0) :
    Calls Try.prog 19 #[.iface 62 (.pointer (some ⟨B, 0, none⟩)), .int .i64 0] w fun r w' => r = .returned (.tuple #[]) ∧ (∃ pl', HeIs w' B g cap n dn H pl' ∧ Ord dn H n pl' ∧ SameS n pl pl') ∧ Tch (fun k => k = g) w w' := by
  have mL := len_m _ _ _ h.cells
  have eL := enter_len
  have cL := len_any (some ⟨g, 0, none⟩) n cap dn w
  replace h := Lib.hid h
  replace hd := Lib.hid hd
  go_enter Try.func19, Try.ntmps19
  go_wp2_with fail
  refine cL.mono ?_
  rintro e1 w1 ⟨rfl, hb1⟩
  have hh1 := h.out.kept hb1
  go_wp2_with fail
  refine (down_any B g cap n dn H pl 0 n (Nat.le_refl _) (by omega) (by omega) w1 hh1 hd.out).mono ?_
  rintro e2 w2 ⟨⟨b, rfl⟩, ⟨q, hq, ho, hs, _⟩, ht⟩
  have ht2 := ((tch_of hb1 (fun k => k = g)).trans ht)
  cases b with
  | true =>
    go_wp2_with fail
    go_end0
    exact ⟨rfl, ⟨q, hq, ho, hs⟩, ht2⟩
  | false =>
    go_wp2_with fail
    refine (up_any B g cap n dn H q 0 (by omega) w2 hq (ord_up ho 0 (Or.inr rfl))).mono ?_
    rintro e3 w3 ⟨rfl, ⟨q3, hq3, ho3, hs3⟩, ht3⟩
    go_wp2_with fail
    go_end0
    exact ⟨rfl, ⟨q3, hq3, ho3, hs.trans hs3⟩, ht2.trans ht3⟩
set_option maxHeartbeats 4000000 in
theorem push_any (B base n : Nat) (dn : Bool) (H : Hs) (pl : Nat → Nat) (hB : B < base) (hn : n ≤ 1000) (w : World) (hbase : base ≤ w.heap.size) (h : HSt w B base n dn H pl) (ho : Ord dn H n pl) :
    Calls Try.prog 24 #[.iface 62 (.pointer (some ⟨B, 0, none⟩)), .iface 60 (.agg (hcl H (pl n)).toArray)] w fun r w' => r = .returned (.tuple #[]) ∧ (∃ pl', HSt w' B base (n + 1) dn H pl' ∧ Ord dn H (n + 1) pl' ∧ SameS (n + 1) pl pl') ∧ Tch (fun k => k = B ∨ base ≤ k) w w' := by
  have mP := fun f => push_m (.pointer (some ⟨B, 0, none⟩)) f w
  have eP := enter_push
  have eL := enter_len
  have cP := hpush_any B base n dn H pl hB hn w hbase h
  generalize (hcl H (pl n)).toArray = vh at *
  clear h
  go_enter Try.func24, Try.ntmps24
  go_wp2_with fail
  refine cP.mono ?_
  rintro e1 w1 ⟨rfl, h1, ht1⟩
  rcases h1 with ⟨h0, _⟩ | ⟨g, cap, hg, hh⟩
  · omega
  have mL := len_m _ _ _ hh.cells
  have cL := len_any (some ⟨g, 0, none⟩) (n + 1) cap dn w1
  have kw : IntKind.i64.wrap (((n + 1 : Nat) : Int) - 1) = (n : Int) := by rw [IntKind.wrap_i64]; omega
  go_wp2_with fail
  refine cL.mono ?_
  rintro e2 w2 ⟨rfl, hb2⟩
  have hh2 := hh.kept hb2
  have ke : ((n + 1 : Nat) : Int) - 1 = (n : Int) := by omega
  have cU := up_any B g cap (n + 1) dn H pl n (by omega) w2 hh2 (ord_push ho)
  have ht2 := Lib.hid (ht1.bel hb2)
  clear hh hh2 mL cL hb2
  go_wp2_with fail
  refine cU.mono ?_
  rintro e3 w3 ⟨rfl, ⟨q, hq, hoq, hs⟩, ht3⟩
  go_wp2_with fail
  go_end0
  exact ⟨rfl, ⟨q, Or.inr ⟨g, cap, hg, hq⟩, hoq, hs⟩, ht2.out.trans2 ht3 (fun k _ e => by subst e; exact Or.inr hg)⟩
set_option maxHeartbeats 4000000 in
theorem pop_any (B g cap n : Nat) (dn : Bool) (H : Hs) (pl : Nat → Nat) (hn : n ≤ 1000) (w : World) (h : HeIs w B g cap (n + 1) dn H pl) (ho : Ord dn H (n + 1) pl) :
    Calls Try.prog 20 #[.iface 62 (.pointer (some ⟨B, 0, none⟩))] w fun r w' => (∃ v, r = .returned v) ∧ (∃ pl', HeIs w' B g cap n dn H pl' ∧ Ord dn H n pl' ∧ SameS n (swp pl 0 n) pl') ∧ Tch (fun k => k = g ∨ k = B) w w' := by
  have mL := len_m _ _ _ h.cells
  have eL := enter_len
  have eS := enter_swap
  have eP := enter_pop
  have cL := len_any (some ⟨g, 0, none⟩) (n + 1) cap dn w
  have ke : ((n + 1 : Nat) : Int) - 1 = (n : Int) := by omega
  have kw : IntKind.i64.wrap ((n : Int) + 1 - 1) = (n : Int) := by rw [IntKind.wrap_i64]; omega
  have ke2 : (n : Int) + 1 - 1 = (n : Int) := by omega
  replace h := Lib.hid h
  go_enter Try.func20, Try.ntmps20
  go_wp2_with fail
  refine cL.mono ?_
  rintro e1 w1 ⟨rfl, hb1⟩
  have hh1 := Lib.hid (h.out.kept hb1)
  have ht1 := Lib.hid (tch_of hb1 (fun k => k = g ∨ k = B))
  have mS := swap_m _ _ _ hh1.out.cells
  have cS := hh1.out.swap (i := 0) (j := n) (by omega) (by omega)
  clear hb1 mL cL
  go_wp2_with fail
  refine cS.mono ?_
  rintro e2 w2 ⟨rfl, hh2, ht2⟩
  have ht2' := Lib.hid (ht1.out.trans2 ht2 (fun k _ e => Or.inl e))
  have cD := down_any B g cap (n + 1) dn H (swp pl 0 n) 0 n (by omega) (by omega) (by omega) w2 hh2 (ord_pop ho)
  clear hh2 ht2 cS mS
  go_wp2_with fail
  refine cD.mono ?_
  rintro e3 w3 ⟨⟨b, rfl⟩, ⟨q, hq, hoq, hs, _⟩, ht3⟩
  have ht3' := Lib.hid (ht2'.out.trans2 ht3 (fun k _ e => Or.inl e))
  have mP := fun f => pop_m (.pointer (some ⟨B, 0, none⟩)) f w3
  have cP := hpop_any B g cap (n + 1) dn H q (by omega) (by omega) w3 hq
  clear ht3
  go_wp2_with fail
  refine cP.mono ?_
  rintro e4 w4 ⟨⟨v, rfl⟩, hh4, ht4⟩
  go_wp2_with fail
  go_ret
  exact ⟨⟨_, rfl⟩, ⟨q, hh4, hoq, hs⟩, ht3'.out.trans2 ht4 (fun k _ e => Or.inr e)⟩
end Go.Proofs.Ytecaegjonhimmaa
