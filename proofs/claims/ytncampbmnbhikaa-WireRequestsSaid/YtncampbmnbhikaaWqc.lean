/-
  wire.parse, walked, kind by kind.
-/
import Derived.Test.YtncampbmnbhikaaJ16
import Derived.Test.YtncampbmnbhikaaWrh
import Derived.Test.YtncampbmnbhikaaRecG
import Derived.Test.YtncampbmnbhikaaJ17
namespace Go.Proofs.Ytncampbmnbhikaa
set_option linter.unusedVariables false
set_option linter.unusedSimpArgs false
open Go.RowKit

theorem load_WQ (ρ : Operand → Value) (dst : Option Tmp) (x : Operand) (t : TypeId) (pos : String) (after : Array Edge) (guard : Option (Nat × Bool)) (w : World) :
    (execOp ρ { dst, op := Op.load 46 x, type := t, pos, after, guard }).run Try.prog w = (loadV Try.prog 46 10 w (ρ x)).andThen fun v w' => .ok (.value v) w' :=
  exec_load_row Try.underlying46 rfl (by kernel_rfl) ρ dst x t pos after guard w
theorem store_WQ (ρ : Operand → Value) (dst : Option Tmp) (p x : Operand) (t : TypeId) (pos : String) (after : Array Edge) (guard : Option (Nat × Bool)) (w : World) :
    (execOp ρ { dst, op := Op.store 46 p x, type := t, pos, after, guard }).run Try.prog w = (storeV Try.prog 46 10 w (ρ p) (ρ x)).andThen fun _ w' => .ok .skip w' :=
  exec_store_row (by kernel_rfl) ρ dst p x t pos after guard w
theorem keepr {W : World} {n : Nat} {q : Addr} {cs : Array Value} {u : Value} (hn : n ≠ q.block) (h : rowAt W n = some cs) : rowAt (W.setCell q u) n = some cs := (rowAt_of (Below.heap_setCell W q u n hn)).trans h
theorem keepR {W : World} {n g : Nat} {cs new : Array Value} (hn : n ≠ g) (h : rowAt W n = some cs) : rowAt (W.setRow g new) n = some cs := (rowAt_of (setRow_other W g n new hn)).trans h
theorem keepC {W : World} {p : Addr} {g : Nat} {v : Value} {new : Array Value} (hp : p.block ≠ g) (h : W.cell? p = some v) : (W.setRow g new).cell? p = some v := (cell_setRow_other W g new p hp).trans h
theorem keepd {W : World} {p : Addr} {v : Value} (h : W.cell? p = some v) : W.drew.cell? p = some v := h
theorem keepdr {W : World} {n : Nat} {cs : Array Value} (h : rowAt W n = some cs) : rowAt W.drew n = some cs := h
theorem results_ct3 {P : Program} {fn : Func} {a u u' : Tmp} {t : TypeId} {tmps : Array Value} {w : World} {ad : Addr} {v : Value} (h : fn.results = #[.cell a t, .tmp u, .tmp u']) (ha : tmps.getD a undef = .pointer (some ad)) (hl : (loadVar t ad).run P w = .ok v w) : (results fn tmps).run P w = .ok (.tuple #[v, tmps.getD u undef, tmps.getD u' undef]) w := by
  simp at ha
  simp [results, h, ha, hl, asAddr, Sem.run_bind]
section
attribute [local go_sem] loadV_ptr storeV_ptr
attribute [local go_sem ↓] load_WQ store_WQ
set_option maxRecDepth 8000 in
set_option maxHeartbeats 4000000 in
theorem parse_g1 (B : Option Addr) (n c q : Nat) (ok : Bool) (fR : Nat → List Value) (hfl : ∀ i, (fR i).length = 15) (w : World) (hC : c ≤ maxLen)
    (HG0 : ∀ W, Below w.heap.size w W → Calls Try.prog 33 #[.slice B n c, .int .i64 104, .func (.func 34) #[] #[]] W fun r w' => ∃ v', r = .returned (.tuple #[v', .bool ok]) ∧ OwnS w' W.heap.size 63 15 v' q fR ∧ Below W.heap.size W w') :
    Calls Try.prog 49 #[.int .u8 1, .slice B n c] w fun r w' => ∃ A' c', r = .returned (.tuple #[.agg #[.int .i64 1, .slice A' q c', .slice none 0 0, .slice none 0 0, .int .u64 0, .int .u64 0, .int .u64 0, .int .u64 0, .int .u32 0, .int .u32 0], .int .i64 q, .bool ok]) ∧ OwnS w' w.heap.size 63 15 (.slice A' q c') q fR ∧ Below w.heap.size w w' := by
  have HG := Lib.hid HG0
  replace hfl := Lib.hid hfl
  clear HG0
  unfold maxLen at hC
  go_enter Try.func49, Try.ntmps49
  go_wp2_with fail
  refine (HG.out _ (bel_alloc (bel_alloc (Below.refl _ _) _) _)).mono ?_
  rintro e2 w2 ⟨v2, rfl, ho2, hb2⟩
  obtain ⟨A2, c2, rfl, hq1, hq2, _⟩ := ho2.ssis hfl.out
  have g_r := (((Blk.new _ _ _).kept (bel_alloc (Below.refl _ _) _)).kept hb2 : Blk w2 w.heap.size 46 #[.int .i64 0, .slice none 0 0, .slice none 0 0, .slice none 0 0, .int .u64 0, .int .u64 0, .int .u64 0, .int .u64 0, .int .u32 0, .int .u32 0])
  have g_t := ((Blk.newE (l := [.int .i64 1, .slice none 0 0, .slice none 0 0, .slice none 0 0, .int .u64 0, .int .u64 0, .int .u64 0, .int .u64 0, .int .u32 0, .int .u32 0]) (n := w.heap.size + 1) (by simp) rfl).kept hb2 : Blk w2 (w.heap.size + 1) 46 #[.int .i64 1, .slice none 0 0, .slice none 0 0, .slice none 0 0, .int .u64 0, .int .u64 0, .int .u64 0, .int .u64 0, .int .u32 0, .int .u32 0])
  have hb3 := Lib.hid ((bel_alloc (bel_alloc (Below.refl _ _) _) _ : Below w.heap.size w _).trans (hb2.mono (by simp; omega)))
  replace ho2 := Lib.hid ho2
  clear hb2
  have t0 := (g_t).cell 0
  have t1 := (g_t).cell 1
  have t2 := (g_t).cell 2
  have t3 := (g_t).cell 3
  have t4 := (g_t).cell 4
  have t5 := (g_t).cell 5
  have t6 := (g_t).cell 6
  have t7 := (g_t).cell 7
  have t8 := (g_t).cell 8
  have t9 := (g_t).cell 9
  have tf0 := (g_t).frozen 0
  have tf1 := (g_t).frozen 1
  have tf2 := (g_t).frozen 2
  have tf3 := (g_t).frozen 3
  have tf4 := (g_t).frozen 4
  have tf5 := (g_t).frozen 5
  have tf6 := (g_t).frozen 6
  have tf7 := (g_t).frozen 7
  have tf8 := (g_t).frozen 8
  have tf9 := (g_t).frozen 9
  have tl := (g_t).lt
  go_upto_region 6 with fail
  refine abs_wp (fun X => Below w.heap.size w X ∧ Blk X (w.heap.size + 1) 46 #[.int .i64 1, .slice A2 q c2, .slice none 0 0, .slice none 0 0, .int .u64 0, .int .u64 0, .int .u64 0, .int .u64 0, .int .u32 0, .int .u32 0] ∧ Blk X w.heap.size 46 #[.int .i64 0, .slice none 0 0, .slice none 0 0, .slice none 0 0, .int .u64 0, .int .u64 0, .int .u64 0, .int .u64 0, .int .u32 0, .int .u32 0] ∧ OwnS X (w.heap.size + 1 + 1) 63 15 (.slice A2 q c2) q fR) ⟨bel_set hb3.out (by dsimp only; omega) _, Blk.set' g_t 1 _ rfl, g_r.far (by dsimp only; omega) _, (by simpa using ho2.out : OwnS w2 (w.heap.size + 1 + 1) _ _ _ _ _).asFrom ((AsFrom.refl _ _).set (by dsimp only; omega) _)⟩ ?_
  rintro X ⟨hbX, k_t, k_r, hoX⟩
  clear g_t g_r t0 t1 t2 t3 t4 t5 t6 t7 t8 t9 tf0 tf1 tf2 tf3 tf4 tf5 tf6 tf7 tf8 tf9 tl hb3 ho2
  have r_t := rowAt_blk k_t
  have r_r := rowAt_blk k_r
  have tl := k_t.lt
  have rl := k_r.lt
  have t1 : X.cell? ⟨w.heap.size + 1, 1, none⟩ = some (.slice A2 q c2) := k_t.cell 1
  replace k_t := Lib.hid k_t
  replace k_r := Lib.hid k_r
  replace hbX := Lib.hid hbX
  replace hoX := Lib.hid hoX
  have HfrR := k_r.out.frozen
  go_region_held3 (fun w' => rowAt w' (w.heap.size + 1) = some #[.int .i64 1, .slice A2 q c2, .slice none 0 0, .slice none 0 0, .int .u64 0, .int .u64 0, .int .u64 0, .int .u64 0, .int .u32 0, .int .u32 0] ∧ w'.cell? ⟨w.heap.size + 1, 1, none⟩ = some (.slice A2 q c2))
    ((repeat' apply And.intro) <;> (first | with_reducible assumption | ((repeat (first | with_reducible refine keepd ?_ | with_reducible refine keepdr ?_ | with_reducible refine keepR (by omega) ?_ | with_reducible refine keepC (by dsimp only; omega) ?_)); with_reducible assumption) | assumption))
    (fail)
  all_goals (
    go_wp2_with fail
    refine abs_post (fun Y_ => Below w.heap.size w Y_ ∧ Blk Y_ w.heap.size 46 #[.int .i64 1, .slice A2 q c2, .slice none 0 0, .slice none 0 0, .int .u64 0, .int .u64 0, .int .u64 0, .int .u64 0, .int .u32 0, .int .u32 0] ∧ AsFrom (w.heap.size + 1 + 1) X Y_) ⟨?_, ?_, ?_⟩ ?_
    · have t := hbX.out
      repeat (with_reducible refine Below.drew ?_)
      refine bel_setRow ?_ (Nat.le_refl _) _
      repeat (with_reducible refine Below.drew ?_)
      exact t
    · repeat (with_reducible refine Blk.drew ?_)
      refine Blk.setRow (cs := #[.int .i64 0, .slice none 0 0, .slice none 0 0, .slice none 0 0, .int .u64 0, .int .u64 0, .int .u64 0, .int .u64 0, .int .u32 0, .int .u32 0]) ?_ rfl
      repeat (with_reducible refine Blk.drew ?_)
      exact k_r.out
    · exact (AsFrom.refl _ X).row (by omega) _
    rintro Y_ ⟨bZ_, gP_, aF_⟩
    have HLV := loadVar_blk (ty := 46) Try.underlying46 rfl (by kernel_rfl) gP_ rfl
    refine bodyPost_ret (v := .tuple #[.agg #[.int .i64 1, .slice A2 q c2, .slice none 0 0, .slice none 0 0, .int .u64 0, .int .u64 0, .int .u64 0, .int .u64 0, .int .u32 0, .int .u32 0], .int .i64 q, .bool ok]) (results_ct3 Try.results49 rfl HLV) rfl ⟨_, _, rfl, ?_, bZ_⟩
    obtain ⟨z1, z2⟩ := hoX.out.asFrom aF_
    exact ⟨z1, z2.imp id (fun ⟨g, cap, cur, q1, q2, q3⟩ => ⟨g, cap, cur, q1, by omega, q3⟩)⟩)
end
section
attribute [local go_sem] loadV_ptr storeV_ptr
attribute [local go_sem ↓] load_WQ store_WQ
set_option maxRecDepth 8000 in
set_option maxHeartbeats 4000000 in
theorem parse_g2 (B : Option Addr) (n c q : Nat) (ok : Bool) (fR : Nat → List Value) (hfl : ∀ i, (fR i).length = 16) (w : World) (hC : c ≤ maxLen)
    (HG0 : ∀ W, Below w.heap.size w W → Calls Try.prog 35 #[.slice B n c, .int .i64 108, .func (.func 36) #[] #[]] W fun r w' => ∃ v', r = .returned (.tuple #[v', .bool ok]) ∧ OwnS w' W.heap.size 67 16 v' q fR ∧ Below W.heap.size W w') :
    Calls Try.prog 49 #[.int .u8 2, .slice B n c] w fun r w' => ∃ A' c', r = .returned (.tuple #[.agg #[.int .i64 2, .slice none 0 0, .slice A' q c', .slice none 0 0, .int .u64 0, .int .u64 0, .int .u64 0, .int .u64 0, .int .u32 0, .int .u32 0], .int .i64 q, .bool ok]) ∧ OwnS w' w.heap.size 67 16 (.slice A' q c') q fR ∧ Below w.heap.size w w' := by
  have HG := Lib.hid HG0
  replace hfl := Lib.hid hfl
  clear HG0
  unfold maxLen at hC
  go_enter Try.func49, Try.ntmps49
  go_wp2_with fail
  refine (HG.out _ (bel_alloc (bel_alloc (Below.refl _ _) _) _)).mono ?_
  rintro e2 w2 ⟨v2, rfl, ho2, hb2⟩
  obtain ⟨A2, c2, rfl, hq1, hq2, _⟩ := ho2.ssis hfl.out
  have g_r := (((Blk.new _ _ _).kept (bel_alloc (Below.refl _ _) _)).kept hb2 : Blk w2 w.heap.size 46 #[.int .i64 0, .slice none 0 0, .slice none 0 0, .slice none 0 0, .int .u64 0, .int .u64 0, .int .u64 0, .int .u64 0, .int .u32 0, .int .u32 0])
  have g_t := ((Blk.newE (l := [.int .i64 2, .slice none 0 0, .slice none 0 0, .slice none 0 0, .int .u64 0, .int .u64 0, .int .u64 0, .int .u64 0, .int .u32 0, .int .u32 0]) (n := w.heap.size + 1) (by simp) rfl).kept hb2 : Blk w2 (w.heap.size + 1) 46 #[.int .i64 2, .slice none 0 0, .slice none 0 0, .slice none 0 0, .int .u64 0, .int .u64 0, .int .u64 0, .int .u64 0, .int .u32 0, .int .u32 0])
  have hb3 := Lib.hid ((bel_alloc (bel_alloc (Below.refl _ _) _) _ : Below w.heap.size w _).trans (hb2.mono (by simp; omega)))
  replace ho2 := Lib.hid ho2
  clear hb2
  have t0 := (g_t).cell 0
  have t1 := (g_t).cell 1
  have t2 := (g_t).cell 2
  have t3 := (g_t).cell 3
  have t4 := (g_t).cell 4
  have t5 := (g_t).cell 5
  have t6 := (g_t).cell 6
  have t7 := (g_t).cell 7
  have t8 := (g_t).cell 8
  have t9 := (g_t).cell 9
  have tf0 := (g_t).frozen 0
  have tf1 := (g_t).frozen 1
  have tf2 := (g_t).frozen 2
  have tf3 := (g_t).frozen 3
  have tf4 := (g_t).frozen 4
  have tf5 := (g_t).frozen 5
  have tf6 := (g_t).frozen 6
  have tf7 := (g_t).frozen 7
  have tf8 := (g_t).frozen 8
  have tf9 := (g_t).frozen 9
  have tl := (g_t).lt
  go_upto_region 6 with fail
  refine abs_wp (fun X => Below w.heap.size w X ∧ Blk X (w.heap.size + 1) 46 #[.int .i64 2, .slice none 0 0, .slice A2 q c2, .slice none 0 0, .int .u64 0, .int .u64 0, .int .u64 0, .int .u64 0, .int .u32 0, .int .u32 0] ∧ Blk X w.heap.size 46 #[.int .i64 0, .slice none 0 0, .slice none 0 0, .slice none 0 0, .int .u64 0, .int .u64 0, .int .u64 0, .int .u64 0, .int .u32 0, .int .u32 0] ∧ OwnS X (w.heap.size + 1 + 1) 67 16 (.slice A2 q c2) q fR) ⟨bel_set hb3.out (by dsimp only; omega) _, Blk.set' g_t 2 _ rfl, g_r.far (by dsimp only; omega) _, (by simpa using ho2.out : OwnS w2 (w.heap.size + 1 + 1) _ _ _ _ _).asFrom ((AsFrom.refl _ _).set (by dsimp only; omega) _)⟩ ?_
  rintro X ⟨hbX, k_t, k_r, hoX⟩
  clear g_t g_r t0 t1 t2 t3 t4 t5 t6 t7 t8 t9 tf0 tf1 tf2 tf3 tf4 tf5 tf6 tf7 tf8 tf9 tl hb3 ho2
  have r_t := rowAt_blk k_t
  have r_r := rowAt_blk k_r
  have tl := k_t.lt
  have rl := k_r.lt
  have t2 : X.cell? ⟨w.heap.size + 1, 2, none⟩ = some (.slice A2 q c2) := k_t.cell 2
  replace k_t := Lib.hid k_t
  replace k_r := Lib.hid k_r
  replace hbX := Lib.hid hbX
  replace hoX := Lib.hid hoX
  have HfrR := k_r.out.frozen
  go_region_held3 (fun w' => rowAt w' (w.heap.size + 1) = some #[.int .i64 2, .slice none 0 0, .slice A2 q c2, .slice none 0 0, .int .u64 0, .int .u64 0, .int .u64 0, .int .u64 0, .int .u32 0, .int .u32 0] ∧ w'.cell? ⟨w.heap.size + 1, 2, none⟩ = some (.slice A2 q c2))
    ((repeat' apply And.intro) <;> (first | with_reducible assumption | ((repeat (first | with_reducible refine keepd ?_ | with_reducible refine keepdr ?_ | with_reducible refine keepR (by omega) ?_ | with_reducible refine keepC (by dsimp only; omega) ?_)); with_reducible assumption) | assumption))
    (fail)
  all_goals (
    go_wp2_with fail
    refine abs_post (fun Y_ => Below w.heap.size w Y_ ∧ Blk Y_ w.heap.size 46 #[.int .i64 2, .slice none 0 0, .slice A2 q c2, .slice none 0 0, .int .u64 0, .int .u64 0, .int .u64 0, .int .u64 0, .int .u32 0, .int .u32 0] ∧ AsFrom (w.heap.size + 1 + 1) X Y_) ⟨?_, ?_, ?_⟩ ?_
    · have t := hbX.out
      repeat (with_reducible refine Below.drew ?_)
      refine bel_setRow ?_ (Nat.le_refl _) _
      repeat (with_reducible refine Below.drew ?_)
      exact t
    · repeat (with_reducible refine Blk.drew ?_)
      refine Blk.setRow (cs := #[.int .i64 0, .slice none 0 0, .slice none 0 0, .slice none 0 0, .int .u64 0, .int .u64 0, .int .u64 0, .int .u64 0, .int .u32 0, .int .u32 0]) ?_ rfl
      repeat (with_reducible refine Blk.drew ?_)
      exact k_r.out
    · exact (AsFrom.refl _ X).row (by omega) _
    rintro Y_ ⟨bZ_, gP_, aF_⟩
    have HLV := loadVar_blk (ty := 46) Try.underlying46 rfl (by kernel_rfl) gP_ rfl
    refine bodyPost_ret (v := .tuple #[.agg #[.int .i64 2, .slice none 0 0, .slice A2 q c2, .slice none 0 0, .int .u64 0, .int .u64 0, .int .u64 0, .int .u64 0, .int .u32 0, .int .u32 0], .int .i64 q, .bool ok]) (results_ct3 Try.results49 rfl HLV) rfl ⟨_, _, rfl, ?_, bZ_⟩
    obtain ⟨z1, z2⟩ := hoX.out.asFrom aF_
    exact ⟨z1, z2.imp id (fun ⟨g, cap, cur, q1, q2, q3⟩ => ⟨g, cap, cur, q1, by omega, q3⟩)⟩)
end
section
attribute [local go_sem] loadV_ptr storeV_ptr
attribute [local go_sem ↓] load_WQ store_WQ
set_option maxRecDepth 8000 in
set_option maxHeartbeats 4000000 in
theorem parse_g3 (B : Option Addr) (n c q : Nat) (ok : Bool) (fR : Nat → List Value) (hfl : ∀ i, (fR i).length = 2) (w : World) (hC : c ≤ maxLen)
    (HG0 : ∀ W, Below w.heap.size w W → Calls Try.prog 66 #[.slice B n c, .int .i64 16, .func (.func 67) #[] #[]] W fun r w' => ∃ v', r = .returned (.tuple #[v', .bool ok]) ∧ OwnS w' W.heap.size 42 2 v' q fR ∧ Below W.heap.size W w') :
    Calls Try.prog 49 #[.int .u8 3, .slice B n c] w fun r w' => ∃ A' c', r = .returned (.tuple #[.agg #[.int .i64 3, .slice none 0 0, .slice none 0 0, .slice A' q c', .int .u64 0, .int .u64 0, .int .u64 0, .int .u64 0, .int .u32 0, .int .u32 0], .int .i64 q, .bool ok]) ∧ OwnS w' w.heap.size 42 2 (.slice A' q c') q fR ∧ Below w.heap.size w w' := by
  have HG := Lib.hid HG0
  replace hfl := Lib.hid hfl
  clear HG0
  unfold maxLen at hC
  go_enter Try.func49, Try.ntmps49
  go_wp2_with fail
  refine (HG.out _ (bel_alloc (bel_alloc (Below.refl _ _) _) _)).mono ?_
  rintro e2 w2 ⟨v2, rfl, ho2, hb2⟩
  obtain ⟨A2, c2, rfl, hq1, hq2, _⟩ := ho2.ssis hfl.out
  have g_r := (((Blk.new _ _ _).kept (bel_alloc (Below.refl _ _) _)).kept hb2 : Blk w2 w.heap.size 46 #[.int .i64 0, .slice none 0 0, .slice none 0 0, .slice none 0 0, .int .u64 0, .int .u64 0, .int .u64 0, .int .u64 0, .int .u32 0, .int .u32 0])
  have g_t := ((Blk.newE (l := [.int .i64 3, .slice none 0 0, .slice none 0 0, .slice none 0 0, .int .u64 0, .int .u64 0, .int .u64 0, .int .u64 0, .int .u32 0, .int .u32 0]) (n := w.heap.size + 1) (by simp) rfl).kept hb2 : Blk w2 (w.heap.size + 1) 46 #[.int .i64 3, .slice none 0 0, .slice none 0 0, .slice none 0 0, .int .u64 0, .int .u64 0, .int .u64 0, .int .u64 0, .int .u32 0, .int .u32 0])
  have hb3 := Lib.hid ((bel_alloc (bel_alloc (Below.refl _ _) _) _ : Below w.heap.size w _).trans (hb2.mono (by simp; omega)))
  replace ho2 := Lib.hid ho2
  clear hb2
  have t0 := (g_t).cell 0
  have t1 := (g_t).cell 1
  have t2 := (g_t).cell 2
  have t3 := (g_t).cell 3
  have t4 := (g_t).cell 4
  have t5 := (g_t).cell 5
  have t6 := (g_t).cell 6
  have t7 := (g_t).cell 7
  have t8 := (g_t).cell 8
  have t9 := (g_t).cell 9
  have tf0 := (g_t).frozen 0
  have tf1 := (g_t).frozen 1
  have tf2 := (g_t).frozen 2
  have tf3 := (g_t).frozen 3
  have tf4 := (g_t).frozen 4
  have tf5 := (g_t).frozen 5
  have tf6 := (g_t).frozen 6
  have tf7 := (g_t).frozen 7
  have tf8 := (g_t).frozen 8
  have tf9 := (g_t).frozen 9
  have tl := (g_t).lt
  go_upto_region 6 with fail
  refine abs_wp (fun X => Below w.heap.size w X ∧ Blk X (w.heap.size + 1) 46 #[.int .i64 3, .slice none 0 0, .slice none 0 0, .slice A2 q c2, .int .u64 0, .int .u64 0, .int .u64 0, .int .u64 0, .int .u32 0, .int .u32 0] ∧ Blk X w.heap.size 46 #[.int .i64 0, .slice none 0 0, .slice none 0 0, .slice none 0 0, .int .u64 0, .int .u64 0, .int .u64 0, .int .u64 0, .int .u32 0, .int .u32 0] ∧ OwnS X (w.heap.size + 1 + 1) 42 2 (.slice A2 q c2) q fR) ⟨bel_set hb3.out (by dsimp only; omega) _, Blk.set' g_t 3 _ rfl, g_r.far (by dsimp only; omega) _, (by simpa using ho2.out : OwnS w2 (w.heap.size + 1 + 1) _ _ _ _ _).asFrom ((AsFrom.refl _ _).set (by dsimp only; omega) _)⟩ ?_
  rintro X ⟨hbX, k_t, k_r, hoX⟩
  clear g_t g_r t0 t1 t2 t3 t4 t5 t6 t7 t8 t9 tf0 tf1 tf2 tf3 tf4 tf5 tf6 tf7 tf8 tf9 tl hb3 ho2
  have r_t := rowAt_blk k_t
  have r_r := rowAt_blk k_r
  have tl := k_t.lt
  have rl := k_r.lt
  have t3 : X.cell? ⟨w.heap.size + 1, 3, none⟩ = some (.slice A2 q c2) := k_t.cell 3
  replace k_t := Lib.hid k_t
  replace k_r := Lib.hid k_r
  replace hbX := Lib.hid hbX
  replace hoX := Lib.hid hoX
  have HfrR := k_r.out.frozen
  go_region_held3 (fun w' => rowAt w' (w.heap.size + 1) = some #[.int .i64 3, .slice none 0 0, .slice none 0 0, .slice A2 q c2, .int .u64 0, .int .u64 0, .int .u64 0, .int .u64 0, .int .u32 0, .int .u32 0] ∧ w'.cell? ⟨w.heap.size + 1, 3, none⟩ = some (.slice A2 q c2))
    ((repeat' apply And.intro) <;> (first | with_reducible assumption | ((repeat (first | with_reducible refine keepd ?_ | with_reducible refine keepdr ?_ | with_reducible refine keepR (by omega) ?_ | with_reducible refine keepC (by dsimp only; omega) ?_)); with_reducible assumption) | assumption))
    (fail)
  all_goals (
    go_wp2_with fail
    refine abs_post (fun Y_ => Below w.heap.size w Y_ ∧ Blk Y_ w.heap.size 46 #[.int .i64 3, .slice none 0 0, .slice none 0 0, .slice A2 q c2, .int .u64 0, .int .u64 0, .int .u64 0, .int .u64 0, .int .u32 0, .int .u32 0] ∧ AsFrom (w.heap.size + 1 + 1) X Y_) ⟨?_, ?_, ?_⟩ ?_
    · have t := hbX.out
      repeat (with_reducible refine Below.drew ?_)
      refine bel_setRow ?_ (Nat.le_refl _) _
      repeat (with_reducible refine Below.drew ?_)
      exact t
    · repeat (with_reducible refine Blk.drew ?_)
      refine Blk.setRow (cs := #[.int .i64 0, .slice none 0 0, .slice none 0 0, .slice none 0 0, .int .u64 0, .int .u64 0, .int .u64 0, .int .u64 0, .int .u32 0, .int .u32 0]) ?_ rfl
      repeat (with_reducible refine Blk.drew ?_)
      exact k_r.out
    · exact (AsFrom.refl _ X).row (by omega) _
    rintro Y_ ⟨bZ_, gP_, aF_⟩
    have HLV := loadVar_blk (ty := 46) Try.underlying46 rfl (by kernel_rfl) gP_ rfl
    refine bodyPost_ret (v := .tuple #[.agg #[.int .i64 3, .slice none 0 0, .slice none 0 0, .slice A2 q c2, .int .u64 0, .int .u64 0, .int .u64 0, .int .u64 0, .int .u32 0, .int .u32 0], .int .i64 q, .bool ok]) (results_ct3 Try.results49 rfl HLV) rfl ⟨_, _, rfl, ?_, bZ_⟩
    obtain ⟨z1, z2⟩ := hoX.out.asFrom aF_
    exact ⟨z1, z2.imp id (fun ⟨g, cap, cur, q1, q2, q3⟩ => ⟨g, cap, cur, q1, by omega, q3⟩)⟩)
end
section
attribute [local go_sem] loadV_ptr storeV_ptr
attribute [local go_sem ↓] load_WQ store_WQ
set_option maxRecDepth 8000 in
set_option maxHeartbeats 4000000 in
theorem parse_g4 (B : Option Addr) (n c q : Nat) (ok : Bool) (fR : Nat → List Value) (hfl : ∀ i, (fR i).length = 2) (w : World) (hC : c ≤ maxLen)
    (HG0 : ∀ W, Below w.heap.size w W → Calls Try.prog 66 #[.slice B n c, .int .i64 16, .func (.func 67) #[] #[]] W fun r w' => ∃ v', r = .returned (.tuple #[v', .bool ok]) ∧ OwnS w' W.heap.size 42 2 v' q fR ∧ Below W.heap.size W w') :
    Calls Try.prog 49 #[.int .u8 4, .slice B n c] w fun r w' => ∃ A' c', r = .returned (.tuple #[.agg #[.int .i64 4, .slice none 0 0, .slice none 0 0, .slice A' q c', .int .u64 0, .int .u64 0, .int .u64 0, .int .u64 0, .int .u32 0, .int .u32 0], .int .i64 q, .bool ok]) ∧ OwnS w' w.heap.size 42 2 (.slice A' q c') q fR ∧ Below w.heap.size w w' := by
  have HG := Lib.hid HG0
  replace hfl := Lib.hid hfl
  clear HG0
  unfold maxLen at hC
  go_enter Try.func49, Try.ntmps49
  go_wp2_with fail
  refine (HG.out _ (bel_alloc (bel_alloc (Below.refl _ _) _) _)).mono ?_
  rintro e2 w2 ⟨v2, rfl, ho2, hb2⟩
  obtain ⟨A2, c2, rfl, hq1, hq2, _⟩ := ho2.ssis hfl.out
  have g_r := (((Blk.new _ _ _).kept (bel_alloc (Below.refl _ _) _)).kept hb2 : Blk w2 w.heap.size 46 #[.int .i64 0, .slice none 0 0, .slice none 0 0, .slice none 0 0, .int .u64 0, .int .u64 0, .int .u64 0, .int .u64 0, .int .u32 0, .int .u32 0])
  have g_t := ((Blk.newE (l := [.int .i64 4, .slice none 0 0, .slice none 0 0, .slice none 0 0, .int .u64 0, .int .u64 0, .int .u64 0, .int .u64 0, .int .u32 0, .int .u32 0]) (n := w.heap.size + 1) (by simp) rfl).kept hb2 : Blk w2 (w.heap.size + 1) 46 #[.int .i64 4, .slice none 0 0, .slice none 0 0, .slice none 0 0, .int .u64 0, .int .u64 0, .int .u64 0, .int .u64 0, .int .u32 0, .int .u32 0])
  have hb3 := Lib.hid ((bel_alloc (bel_alloc (Below.refl _ _) _) _ : Below w.heap.size w _).trans (hb2.mono (by simp; omega)))
  replace ho2 := Lib.hid ho2
  clear hb2
  have t0 := (g_t).cell 0
  have t1 := (g_t).cell 1
  have t2 := (g_t).cell 2
  have t3 := (g_t).cell 3
  have t4 := (g_t).cell 4
  have t5 := (g_t).cell 5
  have t6 := (g_t).cell 6
  have t7 := (g_t).cell 7
  have t8 := (g_t).cell 8
  have t9 := (g_t).cell 9
  have tf0 := (g_t).frozen 0
  have tf1 := (g_t).frozen 1
  have tf2 := (g_t).frozen 2
  have tf3 := (g_t).frozen 3
  have tf4 := (g_t).frozen 4
  have tf5 := (g_t).frozen 5
  have tf6 := (g_t).frozen 6
  have tf7 := (g_t).frozen 7
  have tf8 := (g_t).frozen 8
  have tf9 := (g_t).frozen 9
  have tl := (g_t).lt
  go_upto_region 6 with fail
  refine abs_wp (fun X => Below w.heap.size w X ∧ Blk X (w.heap.size + 1) 46 #[.int .i64 4, .slice none 0 0, .slice none 0 0, .slice A2 q c2, .int .u64 0, .int .u64 0, .int .u64 0, .int .u64 0, .int .u32 0, .int .u32 0] ∧ Blk X w.heap.size 46 #[.int .i64 0, .slice none 0 0, .slice none 0 0, .slice none 0 0, .int .u64 0, .int .u64 0, .int .u64 0, .int .u64 0, .int .u32 0, .int .u32 0] ∧ OwnS X (w.heap.size + 1 + 1) 42 2 (.slice A2 q c2) q fR) ⟨bel_set hb3.out (by dsimp only; omega) _, Blk.set' g_t 3 _ rfl, g_r.far (by dsimp only; omega) _, (by simpa using ho2.out : OwnS w2 (w.heap.size + 1 + 1) _ _ _ _ _).asFrom ((AsFrom.refl _ _).set (by dsimp only; omega) _)⟩ ?_
  rintro X ⟨hbX, k_t, k_r, hoX⟩
  clear g_t g_r t0 t1 t2 t3 t4 t5 t6 t7 t8 t9 tf0 tf1 tf2 tf3 tf4 tf5 tf6 tf7 tf8 tf9 tl hb3 ho2
  have r_t := rowAt_blk k_t
  have r_r := rowAt_blk k_r
  have tl := k_t.lt
  have rl := k_r.lt
  have t3 : X.cell? ⟨w.heap.size + 1, 3, none⟩ = some (.slice A2 q c2) := k_t.cell 3
  replace k_t := Lib.hid k_t
  replace k_r := Lib.hid k_r
  replace hbX := Lib.hid hbX
  replace hoX := Lib.hid hoX
  have HfrR := k_r.out.frozen
  go_region_held3 (fun w' => rowAt w' (w.heap.size + 1) = some #[.int .i64 4, .slice none 0 0, .slice none 0 0, .slice A2 q c2, .int .u64 0, .int .u64 0, .int .u64 0, .int .u64 0, .int .u32 0, .int .u32 0] ∧ w'.cell? ⟨w.heap.size + 1, 3, none⟩ = some (.slice A2 q c2))
    ((repeat' apply And.intro) <;> (first | with_reducible assumption | ((repeat (first | with_reducible refine keepd ?_ | with_reducible refine keepdr ?_ | with_reducible refine keepR (by omega) ?_ | with_reducible refine keepC (by dsimp only; omega) ?_)); with_reducible assumption) | assumption))
    (fail)
  all_goals (
    go_wp2_with fail
    refine abs_post (fun Y_ => Below w.heap.size w Y_ ∧ Blk Y_ w.heap.size 46 #[.int .i64 4, .slice none 0 0, .slice none 0 0, .slice A2 q c2, .int .u64 0, .int .u64 0, .int .u64 0, .int .u64 0, .int .u32 0, .int .u32 0] ∧ AsFrom (w.heap.size + 1 + 1) X Y_) ⟨?_, ?_, ?_⟩ ?_
    · have t := hbX.out
      repeat (with_reducible refine Below.drew ?_)
      refine bel_setRow ?_ (Nat.le_refl _) _
      repeat (with_reducible refine Below.drew ?_)
      exact t
    · repeat (with_reducible refine Blk.drew ?_)
      refine Blk.setRow (cs := #[.int .i64 0, .slice none 0 0, .slice none 0 0, .slice none 0 0, .int .u64 0, .int .u64 0, .int .u64 0, .int .u64 0, .int .u32 0, .int .u32 0]) ?_ rfl
      repeat (with_reducible refine Blk.drew ?_)
      exact k_r.out
    · exact (AsFrom.refl _ X).row (by omega) _
    rintro Y_ ⟨bZ_, gP_, aF_⟩
    have HLV := loadVar_blk (ty := 46) Try.underlying46 rfl (by kernel_rfl) gP_ rfl
    refine bodyPost_ret (v := .tuple #[.agg #[.int .i64 4, .slice none 0 0, .slice none 0 0, .slice A2 q c2, .int .u64 0, .int .u64 0, .int .u64 0, .int .u64 0, .int .u32 0, .int .u32 0], .int .i64 q, .bool ok]) (results_ct3 Try.results49 rfl HLV) rfl ⟨_, _, rfl, ?_, bZ_⟩
    obtain ⟨z1, z2⟩ := hoX.out.asFrom aF_
    exact ⟨z1, z2.imp id (fun ⟨g, cap, cur, q1, q2, q3⟩ => ⟨g, cap, cur, q1, by omega, q3⟩)⟩)
end
end Go.Proofs.Ytncampbmnbhikaa
