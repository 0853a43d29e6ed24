/-
  wire.GetRequest, walked.
-/
import Derived.Test.YtncampbmnbhikaaWqe
namespace Go.Proofs.Ytncampbmnbhikaa
set_option linter.unusedVariables false
set_option linter.unusedSimpArgs false
open Go.RowKit

/-- the request of n bytes, and the state -/
def readRq (n : Nat) (e : Nat → Int) : Rq × Nat :=
  if n = 0 then (zeroRq, 1) else if (parseRq (e 0) (n - 1) (shf e 1)).2.2 = false then (zeroRq, 1) else if 30 < (parseRq (e 0) (n - 1) (shf e 1)).2.1 then (zeroRq, 2) else ((parseRq (e 0) (n - 1) (shf e 1)).1, 0)
def RqIs (w : World) (AA TA UA : Option Addr) (d : Rq) : Prop := SsIs w AA d.an 15 (fun i => clA (d.AF i)) ∧ SsIs w TA d.tn 16 (fun i => clT (d.TF i)) ∧ SsIs w UA d.un 2 (fun i => clU (d.UF i))
theorem RqIs.below {w w' : World} {AA TA UA : Option Addr} {d : Rq} (h : RqIs w AA TA UA d) (hb : Below w.heap.size w w') : RqIs w' AA TA UA d := ⟨h.1.below hb, h.2.1.below hb, h.2.2.below hb⟩
def GotRq (r : Ending) (w w' : World) (q : Rq × Nat) : Prop :=
  ∃ (AA TA UA : Option Addr) (ac tc uc : Nat), r = .returned (.tuple #[cRq q.1 AA TA UA ac tc uc, .int .i64 q.2]) ∧ RqIs w' AA TA UA q.1 ∧ Below w.heap.size w w'
theorem OwnS.base {w : World} {base b' : Nat} {e : TypeId} {k : Nat} {v : Value} {n : Nat} {f : Nat → List Value} (h : OwnS w base e k v n f) (hb : b' ≤ base) : OwnS w b' e k v n f := by
  obtain ⟨z1, z2⟩ := h
  exact ⟨z1, z2.imp id (fun ⟨g, cap, cur, q1, q2, q3⟩ => ⟨g, cap, cur, q1, by omega, q3⟩)⟩
theorem OwnRq.base {w : World} {base b' : Nat} {AA TA UA : Option Addr} {ac tc uc : Nat} {d : Rq} (h : OwnRq w base AA TA UA ac tc uc d) (hb : b' ≤ base) : OwnRq w b' AA TA UA ac tc uc d := ⟨OwnS.base h.1 hb, OwnS.base h.2.1 hb, OwnS.base h.2.2 hb⟩
theorem OwnRq.kept {w w' : World} {base : Nat} {AA TA UA : Option Addr} {ac tc uc : Nat} {d : Rq} (h : OwnRq w base AA TA UA ac tc uc d) (hb : Below w.heap.size w w') : OwnRq w' base AA TA UA ac tc uc d := ⟨h.1.kept hb, h.2.1.kept hb, h.2.2.kept hb⟩
theorem OwnRq.asFrom {w w' : World} {base : Nat} {AA TA UA : Option Addr} {ac tc uc : Nat} {d : Rq} (h : OwnRq w base AA TA UA ac tc uc d) (ha : AsFrom base w w') : OwnRq w' base AA TA UA ac tc uc d := ⟨h.1.asFrom ha, h.2.1.asFrom ha, h.2.2.asFrom ha⟩
theorem OwnRq.is {w : World} {base : Nat} {AA TA UA : Option Addr} {ac tc uc : Nat} {d : Rq} (h : OwnRq w base AA TA UA ac tc uc d) : RqIs w AA TA UA d := by
  obtain ⟨h1, h2, h3⟩ := h
  obtain ⟨_, _, e1, _, _, s1⟩ := h1.ssis (fun _ => rfl)
  obtain ⟨_, _, e2, _, _, s2⟩ := h2.ssis (fun _ => rfl)
  obtain ⟨_, _, e3, _, _, s3⟩ := h3.ssis (fun _ => rfl)
  cases e1; cases e2; cases e3
  exact ⟨s1, s2, s3⟩
theorem OwnRq.zero {w : World} {base : Nat} : OwnRq w base none none none 0 0 0 zeroRq := ⟨nilS _ _ _ _ _, nilS _ _ _ _ _, nilS _ _ _ _ _⟩
theorem keptNew {w w' : World} {g : Nat} {t : TypeId} {cs : Array Value} (hb : Below (w.alloc (.cells cs t)).heap.size (w.alloc (.cells cs t)) w') (hg : g = w.heap.size) : Blk w' g t cs := (Blk.new' hg).kept hb
theorem keptNewD {w w' : World} {g : Nat} {t : TypeId} {cs : Array Value} (hb : Below (w.alloc (.cells cs t)).drew.heap.size (w.alloc (.cells cs t)).drew w') (hg : g = w.heap.size) : Blk w' g t cs := ((Blk.new' hg).drew).kept hb
theorem slis_from1 {w : World} {b o n c : Nat} {e : Nat → Int} (hmc : n ≤ c) (h : SlIs w (some ⟨b, o, none⟩) n (yV e)) : SlIs w (if c = 1 then some ⟨b, o, none⟩ else some ⟨b, o + 1, none⟩) (n - 1) (yV (shf e 1)) := fun h0 => by
  rw [if_neg (by omega)]
  obtain ⟨b', o', e', hl, hc⟩ := h (by omega)
  cases e'
  exact ⟨b, o + 1, rfl, hl, fun j hj => by rw [Nat.add_assoc]; exact hc (1 + j) (by omega)⟩

section
attribute [local go_sem] loadV_ptr storeV_ptr
attribute [local go_sem ↓] load_WQ store_WQ
set_option maxRecDepth 8000 in
set_option maxHeartbeats 4000000 in
theorem getReq_zero (A : Option Addr) (c : Nat) (w : World) :
    Calls Try.prog 15 #[.slice A 0 c] w fun r w' => GotRq r w w' (zeroRq, 1) := by
  go_enter Try.func15, Try.ntmps15
  go_wp2_with fail
  refine abs_post (fun Y_ => Below w.heap.size w Y_ ∧ Blk Y_ w.heap.size 46 #[.int .i64 0, .slice none 0 0, .slice none 0 0, .slice none 0 0, .int .u64 0, .int .u64 0, .int .u64 0, .int .u64 0, .int .u32 0, .int .u32 0]) ⟨by (repeat (first | exact Below.refl _ _ | assumption | refine below_drewN ?_ _ | refine bel_grow ?_ _ | refine Below.drew ?_ | refine bel_alloc ?_ _ | refine bel_set ?_ (by first | exact Nat.le_refl _ | (simp; done) | (simp; omega) | omega) _ | refine bel_trans ?_ (by assumption))), by (repeat (first | with_reducible assumption | (with_reducible refine Blk.new' ?_; first | with_reducible rfl | (simp; done)) | with_reducible refine Blk.alloc ?_ _ | with_reducible refine Blk.grow ?_ _ | with_reducible refine Blk.drew ?_ | with_reducible refine Blk.drewN ?_ _ | (with_reducible refine Blk.far ?_ (by first | (dsimp only; omega) | (simp; omega)) _) | (with_reducible apply Blk.two) | (with_reducible refine Blk.set' ?_ _ _ ?_) | (with_reducible rfl) | rfl))⟩ ?_
  rintro Y_ ⟨bZ_, gP_⟩
  have HLV := loadVar_blk (ty := 46) Try.underlying46 rfl (by kernel_rfl) gP_ rfl
  exact bodyPost_ret (v := .tuple #[.agg #[.int .i64 0, .slice none 0 0, .slice none 0 0, .slice none 0 0, .int .u64 0, .int .u64 0, .int .u64 0, .int .u64 0, .int .u32 0, .int .u32 0], .int .i64 1]) (results_ct Try.results15 rfl HLV) rfl ⟨none, none, none, 0, 0, 0, rfl, OwnRq.zero.is (base := 0), bZ_⟩
set_option maxRecDepth 8000 in
set_option maxHeartbeats 4000000 in
theorem getReq_any (A : Option Addr) (n c : Nat) (e : Nat → Int) (he : ∀ i, 0 ≤ e i ∧ e i < 256) (hmc : n ≤ c) (hC : c ≤ maxLen) (hn : n ≤ 100000) (w : World) (hs : SlIs w A n (yV e)) :
    Calls Try.prog 15 #[.slice A n c] w fun r w' => GotRq r w w' (readRq n e) := by
  unfold readRq
  by_cases h0 : n = 0
  · subst h0
    rw [if_pos rfl]
    exact getReq_zero A c w
  rw [if_neg h0]
  obtain ⟨b, o, rfl, hbl, hc⟩ := hs (by omega)
  have hc0 : w.cell? ⟨b, o, none⟩ = some (.int .u8 (e 0)) := hc 0 (by omega)
  have hsl := Lib.hid (slis_from1 hmc hs)
  have HG := (fun A2 (h : SlIs w A2 (n - 1) (yV (shf e 1))) W (hb : Below w.heap.size w W) => parse_any (e 0) (he 0) A2 (n - 1) (c - 1) (shf e 1) (shf_lo he 1) (by omega) (by omega) (by omega) W (h.below hb))
  have y0 := he 0
  generalize parseRq (e 0) (n - 1) (shf e 1) = p at *
  obtain ⟨d, q, ok⟩ := p
  simp only [PGot, cRq] at HG
  dsimp only at *
  replace HG := Lib.hid HG
  clear hs hc he
  generalize e 0 = x at *
  unfold maxLen at hC
  obtain ⟨qv, hqv⟩ : ∃ qv, qv = (if ok = false then (zeroRq, 1) else if 30 < q then (zeroRq, 2) else (d, 0)) := ⟨_, rfl⟩
  rw [← hqv]
  replace hqv := Lib.hid hqv
  have k1 : ((n : Int) == 0) = false := beq_eq_false_iff_ne.2 (by omega)
  have hn1 : 1 ≤ n := by omega
  have hn0 : 0 < n := by omega
  have hn2 : (1 : Int) ≤ (n : Int) := by omega
  clear h0
  have hsp : c = 1 ∨ c ≠ 1 := by omega
  rcases hsp with hcc | hcc
  · subst hcc
    obtain rfl : n = 1 := by omega
    replace hsl := Lib.hid (by have t := hsl.out; rw [if_pos rfl] at t; exact t)
    go_enter Try.func15, Try.ntmps15
    go_upto_region 3 with fail
    refine abs_wp (fun X => Below w.heap.size w X ∧ Blk X w.heap.size 46 #[.int .i64 0, .slice none 0 0, .slice none 0 0, .slice none 0 0, .int .u64 0, .int .u64 0, .int .u64 0, .int .u64 0, .int .u32 0, .int .u32 0]) ⟨by (repeat (first | exact Below.refl _ _ | assumption | refine below_drewN ?_ _ | refine bel_grow ?_ _ | refine Below.drew ?_ | refine bel_alloc ?_ _ | refine bel_set ?_ (by first | exact Nat.le_refl _ | (simp; done) | (simp; omega) | omega) _ | refine bel_trans ?_ (by assumption))), by (repeat (first | with_reducible assumption | (with_reducible refine Blk.new' ?_; first | with_reducible rfl | (simp; done)) | with_reducible refine Blk.alloc ?_ _ | with_reducible refine Blk.grow ?_ _ | with_reducible refine Blk.drew ?_ | with_reducible refine Blk.drewN ?_ _ | (with_reducible refine Blk.far ?_ (by first | (dsimp only; omega) | (simp; omega)) _) | (with_reducible apply Blk.two) | (with_reducible refine Blk.set' ?_ _ _ ?_) | (with_reducible rfl) | rfl))⟩ ?_
    rintro X ⟨hbX, k_r⟩
    have hcX := keepc hbX hc0
    have hbl2 := Nat.lt_of_lt_of_le hbl hbX.size
    replace hbX := Lib.hid hbX
    have hrl := k_r.lt
    replace k_r := Lib.hid k_r
    clear hc0
    go_cut [4, 5, 6] (fun s4 s5 s6 wx => ∃ (g : Nat) (AA TA UA : Option Addr) (ac tc uc : Nat), s4 = .pointer (some ⟨g, 0, none⟩) ∧ s5 = .int .i64 q ∧ s6 = .bool ok ∧ Hid (w.heap.size < g) ∧ Hid (Blk wx g 46 #[.int .i64 d.kd, .slice AA d.an ac, .slice TA d.tn tc, .slice UA d.un uc, .int .u64 (d.FF 0), .int .u64 (d.FF 1), .int .u64 (d.FF 2), .int .u64 (d.FF 3), .int .u32 (d.FF 4), .int .u32 (d.FF 5)]) ∧ Hid (Blk wx w.heap.size 46 #[.int .i64 0, .slice none 0 0, .slice none 0 0, .slice none 0 0, .int .u64 0, .int .u64 0, .int .u64 0, .int .u64 0, .int .u32 0, .int .u32 0]) ∧ Hid (Below w.heap.size w wx) ∧ Hid (OwnRq wx (w.heap.size + 1) AA TA UA ac tc uc d))
    case first =>
      go_region_law (go_simp; go_at_call 49; refine (HG.out _ hsl.out _ (by have t := hbX.out; (repeat (first | exact Below.refl _ _ | assumption | refine below_drewN ?_ _ | refine bel_grow ?_ _ | refine Below.drew ?_ | refine bel_alloc ?_ _ | refine bel_set ?_ (by first | exact Nat.le_refl _ | (simp; done) | (simp; omega) | omega) _ | refine bel_trans ?_ (by assumption))))).mono ?_; rintro e2 w2 ⟨AA, TA, UA, ac, tc, uc, rfl, ho2, hb2⟩; have hz2 := hb2.size; simp at hz2; have hbw2 := Lib.hid (bel_eld (w := w) (X := _) (by have t := hbX.out; (repeat (first | exact Below.refl _ _ | assumption | refine below_drewN ?_ _ | refine bel_grow ?_ _ | refine Below.drew ?_ | refine bel_alloc ?_ _ | refine bel_set ?_ (by first | exact Nat.le_refl _ | (simp; done) | (simp; omega) | omega) _ | refine bel_trans ?_ (by assumption)))) hb2); (try (have g4 : Blk w2 X.heap.size 46 #[.int .i64 0, .slice none 0 0, .slice none 0 0, .slice none 0 0, .int .u64 0, .int .u64 0, .int .u64 0, .int .u64 0, .int .u32 0, .int .u32 0] := keptNewD hb2 rfl; have r4 := rowAt_blk g4; have l4 := g4.lt; replace g4 := Lib.hid g4)); replace ho2 := Lib.hid ho2)
      all_goals (
        go_wp2_with fail
        go_meet
        have hb2o := hb2
        have hbwo := Lib.hid hbw2.out
        have kro := k_r.out
        refine ⟨_, AA, TA, UA, ac, tc, uc, rfl, rfl, rfl, ?_, ?_, ?_, ?_, ?_⟩
        · unfold Hid; omega
        · unfold Hid
          repeat (with_reducible refine Blk.drew ?_)
          first | exact Blk.new _ _ _ | exact Blk.newE rfl rfl | exact Blk.setRow g4.out rfl
        · unfold Hid
          (repeat (first | with_reducible assumption | (with_reducible refine Blk.new' ?_; first | with_reducible rfl | (simp; done)) | with_reducible refine Blk.alloc ?_ _ | with_reducible refine Blk.grow ?_ _ | with_reducible refine Blk.drew ?_ | with_reducible refine Blk.drewN ?_ _ | (with_reducible refine Blk.far ?_ (by first | (dsimp only; omega) | (simp; omega)) _) | (with_reducible apply Blk.two) | (with_reducible refine Blk.kept ?_ (by assumption)) | (with_reducible refine Blk.setRow (by (repeat (first | with_reducible assumption | (with_reducible refine Blk.far ?_ (by first | (dsimp only; omega) | (simp; omega)) _) | (with_reducible refine Blk.setRow_far ?_ (by first | omega | (simp; omega)) _) | with_reducible refine Blk.drew ?_))) (by first | rfl | (simp; done))) | (with_reducible refine Blk.setRow_far ?_ (by first | omega | (simp; omega)) _) | (with_reducible refine Blk.set' ?_ _ _ (by first | rfl | (simp; done)))))
        · unfold Hid
          have hbwo2 := hbwo.out
          (repeat (first | with_reducible exact Below.refl _ _ | with_reducible assumption | (with_reducible refine bel_set ?_ (by first | exact Nat.le_refl _ | (simp; done) | (simp; omega) | omega) _) | with_reducible refine bel_grow ?_ _ | with_reducible refine Below.drew ?_ | with_reducible refine bel_alloc ?_ _ | (with_reducible refine below_setRow ?_ (by first | omega | (simp; omega)) _) | with_reducible refine bel_eld ?_ (by assumption)))
        · unfold Hid
          first
            | exact (ho2.out.base (by simp; omega)).kept (bel_alloc (Below.refl _ _) _)
            | exact (ho2.out.asFrom ((AsFrom.refl _ _).row (by simp) _)).base (by simp; omega))
    case rest =>
      obtain ⟨g, AA, TA, UA, ac, tc, uc, rfl, rfl, rfl, hg, gk, gr, hbw, ho⟩ := hcut
      have r_t := rowAt_blk gk.out
      have r_r := rowAt_blk gr.out
      have l_t := gk.out.lt
      have l_r := gr.out.lt
      cases ok with
      | false =>
        go_wp2_with fail
        refine abs_post (fun Y_ => Below w.heap.size w Y_ ∧ Blk Y_ w.heap.size 46 #[.int .i64 0, .slice none 0 0, .slice none 0 0, .slice none 0 0, .int .u64 0, .int .u64 0, .int .u64 0, .int .u64 0, .int .u32 0, .int .u32 0] ∧ OwnRq Y_ (w.heap.size + 1) AA TA UA ac tc uc d) ⟨bel_setRow hbw.out (Nat.le_refl _) _, gr.out.setRow rfl, ho.out.asFrom ((AsFrom.refl _ _).row (Nat.lt_succ_self _) _)⟩ ?_
        rintro Y_ ⟨bZ_, gP_, oP_⟩
        have HLV := loadVar_blk (ty := 46) Try.underlying46 rfl (by kernel_rfl) gP_ rfl
        obtain rfl := (hqv.out.trans (by simp) : qv = (zeroRq, 1))
        exact bodyPost_ret (v := .tuple #[.agg #[.int .i64 0, .slice none 0 0, .slice none 0 0, .slice none 0 0, .int .u64 0, .int .u64 0, .int .u64 0, .int .u64 0, .int .u32 0, .int .u32 0], .int .i64 1]) (results_ct Try.results15 rfl HLV) rfl ⟨none, none, none, 0, 0, 0, rfl, OwnRq.zero.is (base := 0), bZ_⟩
      | true =>
        by_cases hq : 30 < q
        · have k3 : decide ((q : Int) > 30) = true := decide_eq_true (by omega)
          go_wp2_with fail
          refine abs_post (fun Y_ => Below w.heap.size w Y_ ∧ Blk Y_ w.heap.size 46 #[.int .i64 0, .slice none 0 0, .slice none 0 0, .slice none 0 0, .int .u64 0, .int .u64 0, .int .u64 0, .int .u64 0, .int .u32 0, .int .u32 0] ∧ OwnRq Y_ (w.heap.size + 1) AA TA UA ac tc uc d) ⟨bel_setRow hbw.out (Nat.le_refl _) _, gr.out.setRow rfl, ho.out.asFrom ((AsFrom.refl _ _).row (Nat.lt_succ_self _) _)⟩ ?_
          rintro Y_ ⟨bZ_, gP_, oP_⟩
          have HLV := loadVar_blk (ty := 46) Try.underlying46 rfl (by kernel_rfl) gP_ rfl
          obtain rfl := (hqv.out.trans (by simp [hq]) : qv = (zeroRq, 2))
          exact bodyPost_ret (v := .tuple #[.agg #[.int .i64 0, .slice none 0 0, .slice none 0 0, .slice none 0 0, .int .u64 0, .int .u64 0, .int .u64 0, .int .u64 0, .int .u32 0, .int .u32 0], .int .i64 2]) (results_ct Try.results15 rfl HLV) rfl ⟨none, none, none, 0, 0, 0, rfl, OwnRq.zero.is (base := 0), bZ_⟩
        · have k3 : decide ((q : Int) > 30) = false := decide_eq_false (by omega)
          go_wp2_with fail
          refine abs_post (fun Y_ => Below w.heap.size w Y_ ∧ Blk Y_ w.heap.size 46 #[.int .i64 d.kd, .slice AA d.an ac, .slice TA d.tn tc, .slice UA d.un uc, .int .u64 (d.FF 0), .int .u64 (d.FF 1), .int .u64 (d.FF 2), .int .u64 (d.FF 3), .int .u32 (d.FF 4), .int .u32 (d.FF 5)] ∧ OwnRq Y_ (w.heap.size + 1) AA TA UA ac tc uc d) ⟨bel_setRow hbw.out (Nat.le_refl _) _, gr.out.setRow rfl, ho.out.asFrom ((AsFrom.refl _ _).row (Nat.lt_succ_self _) _)⟩ ?_
          rintro Y_ ⟨bZ_, gP_, oP_⟩
          have HLV := loadVar_blk (ty := 46) Try.underlying46 rfl (by kernel_rfl) gP_ rfl
          obtain rfl := (hqv.out.trans (by simp [hq]) : qv = (d, 0))
          exact bodyPost_ret (v := .tuple #[.agg #[.int .i64 d.kd, .slice AA d.an ac, .slice TA d.tn tc, .slice UA d.un uc, .int .u64 (d.FF 0), .int .u64 (d.FF 1), .int .u64 (d.FF 2), .int .u64 (d.FF 3), .int .u32 (d.FF 4), .int .u32 (d.FF 5)], .int .i64 0]) (results_ct Try.results15 rfl HLV) rfl ⟨AA, TA, UA, ac, tc, uc, rfl, oP_.is, bZ_⟩
  · replace hsl := Lib.hid (by have t := hsl.out; rw [if_neg hcc] at t; exact t)
    go_enter Try.func15, Try.ntmps15
    go_upto_region 3 with fail
    refine abs_wp (fun X => Below w.heap.size w X ∧ Blk X w.heap.size 46 #[.int .i64 0, .slice none 0 0, .slice none 0 0, .slice none 0 0, .int .u64 0, .int .u64 0, .int .u64 0, .int .u64 0, .int .u32 0, .int .u32 0]) ⟨by (repeat (first | exact Below.refl _ _ | assumption | refine below_drewN ?_ _ | refine bel_grow ?_ _ | refine Below.drew ?_ | refine bel_alloc ?_ _ | refine bel_set ?_ (by first | exact Nat.le_refl _ | (simp; done) | (simp; omega) | omega) _ | refine bel_trans ?_ (by assumption))), by (repeat (first | with_reducible assumption | (with_reducible refine Blk.new' ?_; first | with_reducible rfl | (simp; done)) | with_reducible refine Blk.alloc ?_ _ | with_reducible refine Blk.grow ?_ _ | with_reducible refine Blk.drew ?_ | with_reducible refine Blk.drewN ?_ _ | (with_reducible refine Blk.far ?_ (by first | (dsimp only; omega) | (simp; omega)) _) | (with_reducible apply Blk.two) | (with_reducible refine Blk.set' ?_ _ _ ?_) | (with_reducible rfl) | rfl))⟩ ?_
    rintro X ⟨hbX, k_r⟩
    have hcX := keepc hbX hc0
    have hbl2 := Nat.lt_of_lt_of_le hbl hbX.size
    replace hbX := Lib.hid hbX
    have hrl := k_r.lt
    replace k_r := Lib.hid k_r
    clear hc0
    go_cut [4, 5, 6] (fun s4 s5 s6 wx => ∃ (g : Nat) (AA TA UA : Option Addr) (ac tc uc : Nat), s4 = .pointer (some ⟨g, 0, none⟩) ∧ s5 = .int .i64 q ∧ s6 = .bool ok ∧ Hid (w.heap.size < g) ∧ Hid (Blk wx g 46 #[.int .i64 d.kd, .slice AA d.an ac, .slice TA d.tn tc, .slice UA d.un uc, .int .u64 (d.FF 0), .int .u64 (d.FF 1), .int .u64 (d.FF 2), .int .u64 (d.FF 3), .int .u32 (d.FF 4), .int .u32 (d.FF 5)]) ∧ Hid (Blk wx w.heap.size 46 #[.int .i64 0, .slice none 0 0, .slice none 0 0, .slice none 0 0, .int .u64 0, .int .u64 0, .int .u64 0, .int .u64 0, .int .u32 0, .int .u32 0]) ∧ Hid (Below w.heap.size w wx) ∧ Hid (OwnRq wx (w.heap.size + 1) AA TA UA ac tc uc d))
    case first =>
      go_region_law (go_simp; go_at_call 49; refine (HG.out _ hsl.out _ (by have t := hbX.out; (repeat (first | exact Below.refl _ _ | assumption | refine below_drewN ?_ _ | refine bel_grow ?_ _ | refine Below.drew ?_ | refine bel_alloc ?_ _ | refine bel_set ?_ (by first | exact Nat.le_refl _ | (simp; done) | (simp; omega) | omega) _ | refine bel_trans ?_ (by assumption))))).mono ?_; rintro e2 w2 ⟨AA, TA, UA, ac, tc, uc, rfl, ho2, hb2⟩; have hz2 := hb2.size; simp at hz2; have hbw2 := Lib.hid (bel_eld (w := w) (X := _) (by have t := hbX.out; (repeat (first | exact Below.refl _ _ | assumption | refine below_drewN ?_ _ | refine bel_grow ?_ _ | refine Below.drew ?_ | refine bel_alloc ?_ _ | refine bel_set ?_ (by first | exact Nat.le_refl _ | (simp; done) | (simp; omega) | omega) _ | refine bel_trans ?_ (by assumption)))) hb2); (try (have g4 : Blk w2 X.heap.size 46 #[.int .i64 0, .slice none 0 0, .slice none 0 0, .slice none 0 0, .int .u64 0, .int .u64 0, .int .u64 0, .int .u64 0, .int .u32 0, .int .u32 0] := keptNewD hb2 rfl; have r4 := rowAt_blk g4; have l4 := g4.lt; replace g4 := Lib.hid g4)); replace ho2 := Lib.hid ho2)
      all_goals (
        go_wp2_with fail
        go_meet
        have hb2o := hb2
        have hbwo := Lib.hid hbw2.out
        have kro := k_r.out
        refine ⟨_, AA, TA, UA, ac, tc, uc, rfl, rfl, rfl, ?_, ?_, ?_, ?_, ?_⟩
        · unfold Hid; omega
        · unfold Hid
          repeat (with_reducible refine Blk.drew ?_)
          first | exact Blk.new _ _ _ | exact Blk.newE rfl rfl | exact Blk.setRow g4.out rfl
        · unfold Hid
          (repeat (first | with_reducible assumption | (with_reducible refine Blk.new' ?_; first | with_reducible rfl | (simp; done)) | with_reducible refine Blk.alloc ?_ _ | with_reducible refine Blk.grow ?_ _ | with_reducible refine Blk.drew ?_ | with_reducible refine Blk.drewN ?_ _ | (with_reducible refine Blk.far ?_ (by first | (dsimp only; omega) | (simp; omega)) _) | (with_reducible apply Blk.two) | (with_reducible refine Blk.kept ?_ (by assumption)) | (with_reducible refine Blk.setRow (by (repeat (first | with_reducible assumption | (with_reducible refine Blk.far ?_ (by first | (dsimp only; omega) | (simp; omega)) _) | (with_reducible refine Blk.setRow_far ?_ (by first | omega | (simp; omega)) _) | with_reducible refine Blk.drew ?_))) (by first | rfl | (simp; done))) | (with_reducible refine Blk.setRow_far ?_ (by first | omega | (simp; omega)) _) | (with_reducible refine Blk.set' ?_ _ _ (by first | rfl | (simp; done)))))
        · unfold Hid
          have hbwo2 := hbwo.out
          (repeat (first | with_reducible exact Below.refl _ _ | with_reducible assumption | (with_reducible refine bel_set ?_ (by first | exact Nat.le_refl _ | (simp; done) | (simp; omega) | omega) _) | with_reducible refine bel_grow ?_ _ | with_reducible refine Below.drew ?_ | with_reducible refine bel_alloc ?_ _ | (with_reducible refine below_setRow ?_ (by first | omega | (simp; omega)) _) | with_reducible refine bel_eld ?_ (by assumption)))
        · unfold Hid
          first
            | exact (ho2.out.base (by simp; omega)).kept (bel_alloc (Below.refl _ _) _)
            | exact (ho2.out.asFrom ((AsFrom.refl _ _).row (by simp) _)).base (by simp; omega))
    case rest =>
      obtain ⟨g, AA, TA, UA, ac, tc, uc, rfl, rfl, rfl, hg, gk, gr, hbw, ho⟩ := hcut
      have r_t := rowAt_blk gk.out
      have r_r := rowAt_blk gr.out
      have l_t := gk.out.lt
      have l_r := gr.out.lt
      cases ok with
      | false =>
        go_wp2_with fail
        refine abs_post (fun Y_ => Below w.heap.size w Y_ ∧ Blk Y_ w.heap.size 46 #[.int .i64 0, .slice none 0 0, .slice none 0 0, .slice none 0 0, .int .u64 0, .int .u64 0, .int .u64 0, .int .u64 0, .int .u32 0, .int .u32 0] ∧ OwnRq Y_ (w.heap.size + 1) AA TA UA ac tc uc d) ⟨bel_setRow hbw.out (Nat.le_refl _) _, gr.out.setRow rfl, ho.out.asFrom ((AsFrom.refl _ _).row (Nat.lt_succ_self _) _)⟩ ?_
        rintro Y_ ⟨bZ_, gP_, oP_⟩
        have HLV := loadVar_blk (ty := 46) Try.underlying46 rfl (by kernel_rfl) gP_ rfl
        obtain rfl := (hqv.out.trans (by simp) : qv = (zeroRq, 1))
        exact bodyPost_ret (v := .tuple #[.agg #[.int .i64 0, .slice none 0 0, .slice none 0 0, .slice none 0 0, .int .u64 0, .int .u64 0, .int .u64 0, .int .u64 0, .int .u32 0, .int .u32 0], .int .i64 1]) (results_ct Try.results15 rfl HLV) rfl ⟨none, none, none, 0, 0, 0, rfl, OwnRq.zero.is (base := 0), bZ_⟩
      | true =>
        by_cases hq : 30 < q
        · have k3 : decide ((q : Int) > 30) = true := decide_eq_true (by omega)
          go_wp2_with fail
          refine abs_post (fun Y_ => Below w.heap.size w Y_ ∧ Blk Y_ w.heap.size 46 #[.int .i64 0, .slice none 0 0, .slice none 0 0, .slice none 0 0, .int .u64 0, .int .u64 0, .int .u64 0, .int .u64 0, .int .u32 0, .int .u32 0] ∧ OwnRq Y_ (w.heap.size + 1) AA TA UA ac tc uc d) ⟨bel_setRow hbw.out (Nat.le_refl _) _, gr.out.setRow rfl, ho.out.asFrom ((AsFrom.refl _ _).row (Nat.lt_succ_self _) _)⟩ ?_
          rintro Y_ ⟨bZ_, gP_, oP_⟩
          have HLV := loadVar_blk (ty := 46) Try.underlying46 rfl (by kernel_rfl) gP_ rfl
          obtain rfl := (hqv.out.trans (by simp [hq]) : qv = (zeroRq, 2))
          exact bodyPost_ret (v := .tuple #[.agg #[.int .i64 0, .slice none 0 0, .slice none 0 0, .slice none 0 0, .int .u64 0, .int .u64 0, .int .u64 0, .int .u64 0, .int .u32 0, .int .u32 0], .int .i64 2]) (results_ct Try.results15 rfl HLV) rfl ⟨none, none, none, 0, 0, 0, rfl, OwnRq.zero.is (base := 0), bZ_⟩
        · have k3 : decide ((q : Int) > 30) = false := decide_eq_false (by omega)
          go_wp2_with fail
          refine abs_post (fun Y_ => Below w.heap.size w Y_ ∧ Blk Y_ w.heap.size 46 #[.int .i64 d.kd, .slice AA d.an ac, .slice TA d.tn tc, .slice UA d.un uc, .int .u64 (d.FF 0), .int .u64 (d.FF 1), .int .u64 (d.FF 2), .int .u64 (d.FF 3), .int .u32 (d.FF 4), .int .u32 (d.FF 5)] ∧ OwnRq Y_ (w.heap.size + 1) AA TA UA ac tc uc d) ⟨bel_setRow hbw.out (Nat.le_refl _) _, gr.out.setRow rfl, ho.out.asFrom ((AsFrom.refl _ _).row (Nat.lt_succ_self _) _)⟩ ?_
          rintro Y_ ⟨bZ_, gP_, oP_⟩
          have HLV := loadVar_blk (ty := 46) Try.underlying46 rfl (by kernel_rfl) gP_ rfl
          obtain rfl := (hqv.out.trans (by simp [hq]) : qv = (d, 0))
          exact bodyPost_ret (v := .tuple #[.agg #[.int .i64 d.kd, .slice AA d.an ac, .slice TA d.tn tc, .slice UA d.un uc, .int .u64 (d.FF 0), .int .u64 (d.FF 1), .int .u64 (d.FF 2), .int .u64 (d.FF 3), .int .u32 (d.FF 4), .int .u32 (d.FF 5)], .int .i64 0]) (results_ct Try.results15 rfl HLV) rfl ⟨AA, TA, UA, ac, tc, uc, rfl, oP_.is, bZ_⟩
end
end Go.Proofs.Ytncampbmnbhikaa
