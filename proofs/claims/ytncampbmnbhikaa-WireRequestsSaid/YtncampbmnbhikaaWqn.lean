/-
  WireRequests: plain laws; walked.
-/
import Derived.Test.YtncampbmnbhikaaWql
import Derived.Test.YtncampbmnbhikaaJ21
import Derived.Test.YtncampbmnbhikaaLooseB
namespace Go.Proofs.Ytncampbmnbhikaa
set_option linter.unusedVariables false
set_option linter.unusedSimpArgs false
open Go.RowKit

/-- more of what its kind has than a request may have? -/
def manyC (d : Rq) : Bool := decide ((d.kd = 1 ∧ 30 < d.an) ∨ (d.kd = 2 ∧ 30 < d.tn) ∨ ((d.kd = 3 ∨ d.kd = 4) ∧ 30 < d.un))
/-- what the bytes of d are read as -/
def Reads (d : Rq) (q : Rq × Nat) : Prop := (manyC d = true ∧ q = (zeroRq, 2)) ∨ (manyC d = false ∧ q.2 = 0 ∧ q.1.kd = d.kd)
theorem hd1_0 {d : Rq} {k : Int} {n : Nat} {f : Nat → Int} (h : bytRq d = cat (hd1 k) n f) (hn : 0 < n) : bytRq d 0 = k := by rw [h, cat_lo hn]; rfl
set_option maxHeartbeats 1000000 in
theorem reads_of {d : Rq} (hk : ¬ (d.kd < 1 ∨ 7 < d.kd)) : Reads d (readRq (lenRq d) (bytRq d)) ∧ lenRq d ≠ 0 ∧ (∀ i, 0 ≤ bytRq d i ∧ bytRq d i < 256) := by
  have hby : ∀ i, 0 ≤ bytRq d i ∧ bytRq d i < 256 := by
    intro i
    have h1 : ∀ j, 0 ≤ hd1 d.kd j ∧ hd1 d.kd j < 256 := fun j => (by show 0 ≤ d.kd ∧ d.kd < 256; omega)
    unfold bytRq
    split
    · exact (by show 0 ≤ (7 : Int) ∧ (7 : Int) < 256; omega)
    · refine cat_byte h1 ?_ i
      intro i
      split
      · exact rowsF_ok (fun i r => putAccount_ok _ _ _ _ _ _ _ _ _ _ _ _ _ _ _ r) i
      split
      · exact rowsF_ok (fun i r => putTransfer_ok _ _ _ _ _ _ _ _ _ _ _ _ _ _ _ _ r) i
      split
      · exact rowsF_ok (fun i r => dgt_lo _ _ r) i
      · exact putFilter_ok _ _ _ _ _ _ i
  refine ⟨?_, ?_, hby⟩
  · rcases (by omega : d.kd = 1 ∨ d.kd = 2 ∨ d.kd = 3 ∨ d.kd = 4 ∨ d.kd = 5 ∨ d.kd = 6 ∨ d.kd = 7) with k | k | k | k | k | k | k
    · have e1 : lenRq d = 1 + d.an * 104 := by simp [lenRq, k]
      have e0 : bytRq d 0 = 1 := by simp [bytRq, k, cat_lo, hd1]
      have hm : manyC d = decide (30 < d.an) := by simp [manyC, k]
      generalize bytRq d = D at *
      rw [e1]
      have m : (1 + d.an * 104 - 1) % 104 = 0 := by omega
      by_cases m2 : 30 < d.an
      · rw [readRq_many (by omega) (by rw [e0, parse_1_y m]) (by rw [e0, parse_1_y m]; dsimp only; omega)]
        exact Or.inl ⟨by rw [hm]; exact decide_eq_true m2, rfl⟩
      · rw [readRq_yes (by omega) (by rw [e0, parse_1_y m]) (by omega)]
        exact Or.inr ⟨by rw [hm]; exact decide_eq_false m2, rfl, k.symm⟩
    · have e1 : lenRq d = 1 + d.tn * 108 := by simp [lenRq, k]
      have e0 : bytRq d 0 = 2 := by simp [bytRq, k, cat_lo, hd1]
      have hm : manyC d = decide (30 < d.tn) := by simp [manyC, k]
      generalize bytRq d = D at *
      rw [e1]
      have m : (1 + d.tn * 108 - 1) % 108 = 0 := by omega
      by_cases m2 : 30 < d.tn
      · rw [readRq_many (by omega) (by rw [e0, parse_2_y m]) (by rw [e0, parse_2_y m]; dsimp only; omega)]
        exact Or.inl ⟨by rw [hm]; exact decide_eq_true m2, rfl⟩
      · rw [readRq_yes (by omega) (by rw [e0, parse_2_y m]) (by omega)]
        exact Or.inr ⟨by rw [hm]; exact decide_eq_false m2, rfl, k.symm⟩
    · have e1 : lenRq d = 1 + d.un * 16 := by simp [lenRq, k]
      have e0 : bytRq d 0 = 3 := by simp [bytRq, k, cat_lo, hd1]
      have hm : manyC d = decide (30 < d.un) := by simp [manyC, k]
      generalize bytRq d = D at *
      rw [e1]
      have m : (1 + d.un * 16 - 1) % 16 = 0 := by omega
      by_cases m2 : 30 < d.un
      · rw [readRq_many (by omega) (by rw [e0, parse_3_y m]) (by rw [e0, parse_3_y m]; dsimp only; omega)]
        exact Or.inl ⟨by rw [hm]; exact decide_eq_true m2, rfl⟩
      · rw [readRq_yes (by omega) (by rw [e0, parse_3_y m]) (by omega)]
        exact Or.inr ⟨by rw [hm]; exact decide_eq_false m2, rfl, k.symm⟩
    · have e1 : lenRq d = 1 + d.un * 16 := by simp [lenRq, k]
      have e0 : bytRq d 0 = 4 := by simp [bytRq, k, cat_lo, hd1]
      have hm : manyC d = decide (30 < d.un) := by simp [manyC, k]
      generalize bytRq d = D at *
      rw [e1]
      have m : (1 + d.un * 16 - 1) % 16 = 0 := by omega
      by_cases m2 : 30 < d.un
      · rw [readRq_many (by omega) (by rw [e0, parse_4_y m]) (by rw [e0, parse_4_y m]; dsimp only; omega)]
        exact Or.inl ⟨by rw [hm]; exact decide_eq_true m2, rfl⟩
      · rw [readRq_yes (by omega) (by rw [e0, parse_4_y m]) (by omega)]
        exact Or.inr ⟨by rw [hm]; exact decide_eq_false m2, rfl, k.symm⟩
    · have e1 : lenRq d = 41 := by simp [lenRq, k]
      have e0 : bytRq d 0 = 5 := by simp [bytRq, k, cat_lo, hd1]
      have hm : manyC d = false := by simp [manyC, k]
      generalize bytRq d = D at *
      rw [e1]
      rw [readRq_yes (by omega) (by rw [e0, parse_5_y rfl]) (by omega)]
      exact Or.inr ⟨hm, rfl, k.symm⟩
    · have e1 : lenRq d = 41 := by simp [lenRq, k]
      have e0 : bytRq d 0 = 6 := by simp [bytRq, k, cat_lo, hd1]
      have hm : manyC d = false := by simp [manyC, k]
      generalize bytRq d = D at *
      rw [e1]
      rw [readRq_yes (by omega) (by rw [e0, parse_6_y rfl]) (by omega)]
      exact Or.inr ⟨hm, rfl, k.symm⟩
    · have e1 : lenRq d = 1 := by simp [lenRq, k]
      have e0 : bytRq d 0 = 7 := by simp [bytRq, k, hd1]
      have hm : manyC d = false := by simp [manyC, k]
      generalize bytRq d = D at *
      rw [e1]
      rw [readRq_yes (d := { zeroRq with kd := 7 }) (q := 0) (by omega) (by rw [e0, parse_7_e]; rfl) (by omega)]
      exact Or.inr ⟨hm, rfl, k.symm⟩
  · unfold lenRq
    rw [if_neg hk]
    repeat' split
    all_goals omega
theorem great_three {w W : World} {a b c n : Nat} {g : Bool} (hn : n = W.heap.size) (hg : g = decide (100 < a ∨ 100 < b ∨ 100 < c)) :
    Calls Try.prog 7 #[.slice (some ⟨n, 0, none⟩) 3 3] (W.alloc (.cells #[.int .i64 a, .int .i64 b, .int .i64 c] 3)) fun r w' => r = .returned (.bool g) ∧ Below (W.alloc (.cells #[.int .i64 a, .int .i64 b, .int .i64 c] 3)).heap.size (W.alloc (.cells #[.int .i64 a, .int .i64 b, .int .i64 c] 3)) w' := by
  subst hn
  refine great_any (some ⟨W.heap.size, 0, none⟩) 3 3 (fun i => ([(a : Int), b, c] : List Int).getD i 0) g ?_ _ (by omega) (fun _ => ⟨W.heap.size, 0, rfl, by simp, fun j hj => ?_⟩)
  · rw [hg, decide_eq_true_eq]
    constructor
    · rintro (h | h | h)
      · exact ⟨0, by omega, (by show (100 : Int) < (a : Int); omega)⟩
      · exact ⟨1, by omega, (by show (100 : Int) < (b : Int); omega)⟩
      · exact ⟨2, by omega, (by show (100 : Int) < (c : Int); omega)⟩
    · rintro ⟨j, hj, h⟩
      rcases (by omega : j = 0 ∨ j = 1 ∨ j = 2) with rfl | rfl | rfl
      · have h : (100 : Int) < (a : Int) := h
        omega
      · have h : (100 : Int) < (b : Int) := h
        omega
      · have h : (100 : Int) < (c : Int) := h
        omega
  · rw [Nat.zero_add, (Blk.new W 3 #[.int .i64 a, .int .i64 b, .int .i64 c]).cell j]
    rcases (by omega : j = 0 ∨ j = 1 ∨ j = 2) with rfl | rfl | rfl <;> rfl
/-- what the loose slot holds -/
def LWR (n : Nat) (D : Nat → Int) (_ : Nat) (v : Value) (X : World) : Prop := ∃ A c, v = .slice A n c ∧ SlIs X A n (yV D)
theorem LWR_up {n : Nat} {D : Nat → Int} (s : Nat) (v : Value) (w w' : World) (h : LWR n D s v w) (hb : Below w.heap.size w w') : LWR n D s v w' := by
  obtain ⟨A, c, h1, h2⟩ := h
  exact ⟨A, c, h1, h2.below hb⟩
def manyRq (d : Rq) : Bool := decide (100 < d.an ∨ 100 < d.tn ∨ 100 < d.un)
set_option maxRecDepth 8000 in
set_option maxHeartbeats 4000000 in
theorem wireRequests_far (d : Rq) (AA TA UA : Option Addr) (ac tc uc : Nat) (w : World) (hm : d.an ≤ maxLen ∧ d.tn ≤ maxLen ∧ d.un ≤ maxLen) (h : manyRq d = true) :
    Calls Try.prog 5 #[.agg #[.int .i64 d.kd, .slice AA d.an ac, .slice TA d.tn tc, .slice UA d.un uc, .int .u64 (d.FF 0), .int .u64 (d.FF 1), .int .u64 (d.FF 2), .int .u64 (d.FF 3), .int .u32 (d.FF 4), .int .u32 (d.FF 5)]] w fun r w' => r = .returned (.bool true) ∧ Below w.heap.size w w' := by
  have HG := Lib.hid (fun (W : World) n (hn : n = W.heap.size) => great_three (w := w) (W := W) (n := n) (a := d.an) (b := d.tn) (c := d.un) hn h.symm)
  have HX := Lib.hid fixed_any
  unfold maxLen at hm
  obtain ⟨m1, m2, m3⟩ := hm
  go_enter Try.func5, Try.ntmps5
  go_wp2_with fail
  refine (HG.out _ _ (by simp)).mono ?_
  rintro e1 w1 ⟨rfl, hb1⟩
  have hb2 := Lib.hid ((bel_alloc (bel_alloc (Below.refl _ _) _) _ : Below w.heap.size w _).trans (hb1.mono (by simp; omega)))
  go_wp2_with fail
  refine (HX.out _).mono ?_
  rintro e3 w3 ⟨rfl, hb3⟩
  have hb4 := Lib.hid (bel_eld hb2.out hb3)
  go_wp2_with fail
  go_ret
  exact ⟨rfl, hb4.out⟩
section
attribute [local go_sem] loadV_ptr storeV_ptr
attribute [local go_sem ↓] load_WQ store_WQ
set_option maxRecDepth 8000 in
set_option maxHeartbeats 4000000 in
theorem wireRequests_bad (d : Rq) (AA TA UA : Option Addr) (ac tc uc : Nat) (w : World) (hok : okRq d) (h : manyRq d = false) (hs : RqIs w AA TA UA d) (hk : d.kd < 1 ∨ 7 < d.kd) :
    Calls Try.prog 5 #[.agg #[.int .i64 d.kd, .slice AA d.an ac, .slice TA d.tn tc, .slice UA d.un uc, .int .u64 (d.FF 0), .int .u64 (d.FF 1), .int .u64 (d.FF 2), .int .u64 (d.FF 3), .int .u32 (d.FF 4), .int .u32 (d.FF 5)]] w fun r w' => r = .returned (.bool true) ∧ Below w.heap.size w w' := by
  have HG := Lib.hid (fun (W : World) n (hn : n = W.heap.size) => great_three (w := w) (W := W) (n := n) (a := d.an) (b := d.tn) (c := d.un) hn h.symm)
  have HX := Lib.hid fixed_any
  have hm : ¬ (100 < d.an ∨ 100 < d.tn ∨ 100 < d.un) := of_decide_eq_false h
  have hfit : fitRq d := by unfold fitRq; omega
  have hlen : lenRq d ≤ 30000 := by
    unfold lenRq
    repeat' split
    all_goals omega
  have HP := (fun W (hb : Below w.heap.size w W) => putReq_any d AA TA UA ac tc uc W hok hfit (hs.below hb))
  have HR := (fun W (hb : Below w.heap.size w W) => refReq_any d AA TA UA ac tc uc W hok hfit (hs.below hb))
  simp only [cRq] at HP HR
  replace HP := Lib.hid HP
  replace HR := Lib.hid HR
  have m1 : d.an ≤ 100 := by omega
  have m2 : d.tn ≤ 100 := by omega
  have m3 : d.un ≤ 100 := by omega
  have hN : lenRq d = 0 := if_pos hk
  rw [hN] at HP HR
  generalize bytRq d = D at *
  clear hm hfit hlen hs hok hN
  have k1 : (d.kd == 1) = false := beq_eq_false_iff_ne.2 (by omega)
  have k2 : (d.kd == 2) = false := beq_eq_false_iff_ne.2 (by omega)
  have k3 : (d.kd == 3) = false := beq_eq_false_iff_ne.2 (by omega)
  have k4 : (d.kd == 4) = false := beq_eq_false_iff_ne.2 (by omega)
  go_enter Try.func5, Try.ntmps5
  go_wp2_with fail
  refine (HG.out _ _ (by simp)).mono ?_
  rintro e1 w1 ⟨rfl, hb1⟩
  have hb2 := Lib.hid ((bel_alloc (bel_alloc (Below.refl _ _) _) _ : Below w.heap.size w _).trans (hb1.mono (by simp; omega)))
  have g_x := (((Blk.new _ _ _).kept (bel_alloc (Below.refl _ _) _)).kept hb1 : Blk w1 w.heap.size 46 #[.int .i64 d.kd, .slice AA d.an ac, .slice TA d.tn tc, .slice UA d.un uc, .int .u64 (d.FF 0), .int .u64 (d.FF 1), .int .u64 (d.FF 2), .int .u64 (d.FF 3), .int .u32 (d.FF 4), .int .u32 (d.FF 5)])
  clear hb1
  have r_x := rowAt_blk g_x
  go_wp2_with fail
  refine (HP.out _ hb2.out).mono ?_
  rintro e3 w3 ⟨v3, rfl, ho3, hb3⟩
  replace hb2 := Lib.hid (bel_eld hb2.out hb3)
  replace g_x := g_x.kept hb3
  obtain ⟨A3, c3, rfl, j1, j2, s3⟩ := ho3.byS
  have q3 := fun e => conv8 (s3.below (grow_below w3 e)) c3
  have HRm := Lib.hid (fun e => HR.out (Grow w3 e) (hb2.out.trans ((grow_below w3 e).mono hb2.out.size)))
  clear hb3 ho3 r_x
  replace s3 := Lib.hid s3
  have r_x := rowAt_blk g_x
  have x0 := (g_x).cell 0
  have x1 := (g_x).cell 1
  have x2 := (g_x).cell 2
  have x3 := (g_x).cell 3
  have x4 := (g_x).cell 4
  have x5 := (g_x).cell 5
  have x6 := (g_x).cell 6
  have x7 := (g_x).cell 7
  have x8 := (g_x).cell 8
  have x9 := (g_x).cell 9
  have xf0 := (g_x).frozen 0
  have xf1 := (g_x).frozen 1
  have xf2 := (g_x).frozen 2
  have xf3 := (g_x).frozen 3
  have xf4 := (g_x).frozen 4
  have xf5 := (g_x).frozen 5
  have xf6 := (g_x).frozen 6
  have xf7 := (g_x).frozen 7
  have xf8 := (g_x).frozen 8
  have xf9 := (g_x).frozen 9
  have xl := (g_x).lt
  replace g_x := Lib.hid g_x
  go_wp2_with fail
  first | (with_reducible refine rgrow2 (by kernel_rfl) (by kernel_rfl) ?_) | (refine rgrow (by kernel_rfl) (by kernel_rfl) ?_)
  repeat (go_big_quiet_step (((go_at_call 14; exact grow_call (HRm.out _)))))
  refine wpQuiet_nil ?_
  intro dr
  go_wp2_with fail
  replace hb2 := Lib.hid (hb2.out.trans ((grow_below w3 dr).mono hb2.out.size))
  replace g_x := Lib.hid (g_x.out.kept (grow_below w3 dr))
  replace s3 := Lib.hid (s3.out.below (grow_below w3 dr))
  generalize Grow w3 dr = w4 at *
  clear HRm HR HP HG q3 r_x x0 x1 x2 x3 x4 x5 x6 x7 x8 x9 xf0 xf1 xf2 xf3 xf4 xf5 xf6 xf7 xf8 xf9 xl
  refine (getReq_zero A3 c3 w4).mono ?_
  rintro e5 w5 ⟨AB, TB, UB, ab, tb, ub, rfl, _, hb5⟩
  simp only [cRq, zeroRq]
  have hb6 := Lib.hid (bel_eld hb2.out hb5)
  have g_x5 := Lib.hid (g_x.out.kept hb5)
  clear hb5
  have x0 := (g_x5.out).cell 0
  have x1 := (g_x5.out).cell 1
  have x2 := (g_x5.out).cell 2
  have x3 := (g_x5.out).cell 3
  have x4 := (g_x5.out).cell 4
  have x5 := (g_x5.out).cell 5
  have x6 := (g_x5.out).cell 6
  have x7 := (g_x5.out).cell 7
  have x8 := (g_x5.out).cell 8
  have x9 := (g_x5.out).cell 9
  have xf0 := (g_x5.out).frozen 0
  have xf1 := (g_x5.out).frozen 1
  have xf2 := (g_x5.out).frozen 2
  have xf3 := (g_x5.out).frozen 3
  have xf4 := (g_x5.out).frozen 4
  have xf5 := (g_x5.out).frozen 5
  have xf6 := (g_x5.out).frozen 6
  have xf7 := (g_x5.out).frozen 7
  have xf8 := (g_x5.out).frozen 8
  have xf9 := (g_x5.out).frozen 9
  have xl := (g_x5.out).lt
  rcases hk with hk | hk
  · have k5 : decide (d.kd < 1) = true := decide_eq_true hk
    go_wp2_with fail
    refine (HX.out _).mono ?_
    rintro e7 w7 ⟨rfl, hb7⟩
    have hb8 := Lib.hid ((bel_alloc hb6.out _).trans (hb7.mono (by have := hb6.out.size; simp; omega)))
    go_wp2_with fail
    go_ret
    exact ⟨rfl, hb8.out⟩
  · have k5 : decide (d.kd < 1) = false := decide_eq_false (by omega)
    have k6 : decide (d.kd > 7) = true := decide_eq_true hk
    go_wp2_with fail
    refine (HX.out _).mono ?_
    rintro e7 w7 ⟨rfl, hb7⟩
    have hb8 := Lib.hid ((bel_alloc hb6.out _).trans (hb7.mono (by have := hb6.out.size; simp; omega)))
    go_wp2_with fail
    go_ret
    exact ⟨rfl, hb8.out⟩
set_option maxRecDepth 8000 in
set_option maxHeartbeats 4000000 in
theorem wireRequests_good (d : Rq) (AA TA UA : Option Addr) (ac tc uc : Nat) (w : World) (hok : okRq d) (h : manyRq d = false) (hs : RqIs w AA TA UA d) (hk : ¬ (d.kd < 1 ∨ 7 < d.kd)) :
    Calls Try.prog 5 #[.agg #[.int .i64 d.kd, .slice AA d.an ac, .slice TA d.tn tc, .slice UA d.un uc, .int .u64 (d.FF 0), .int .u64 (d.FF 1), .int .u64 (d.FF 2), .int .u64 (d.FF 3), .int .u32 (d.FF 4), .int .u32 (d.FF 5)]] w fun r w' => r = .returned (.bool true) ∧ Below w.heap.size w w' := by
  have HG := Lib.hid (fun (W : World) n (hn : n = W.heap.size) => great_three (w := w) (W := W) (n := n) (a := d.an) (b := d.tn) (c := d.un) hn h.symm)
  have HX := Lib.hid fixed_any
  have hm : ¬ (100 < d.an ∨ 100 < d.tn ∨ 100 < d.un) := of_decide_eq_false h
  have hfit : fitRq d := by unfold fitRq; omega
  have hlen : lenRq d ≤ 30000 := by
    unfold lenRq
    repeat' split
    all_goals omega
  have HP := (fun W (hb : Below w.heap.size w W) => putReq_any d AA TA UA ac tc uc W hok hfit (hs.below hb))
  have HR := (fun W (hb : Below w.heap.size w W) => refReq_any d AA TA UA ac tc uc W hok hfit (hs.below hb))
  simp only [cRq] at HP HR
  replace HP := Lib.hid HP
  replace HR := Lib.hid HR
  have m1 : d.an ≤ 100 := by omega
  have m2 : d.tn ≤ 100 := by omega
  have m3 : d.un ≤ 100 := by omega
  obtain ⟨hrd, hN, hby⟩ := reads_of hk
  have hback := readRq_back (lenRq d) (bytRq d) hby
  have HQ := (fun A c W (h1 : lenRq d ≤ c) (h2 : c ≤ maxLen) (hs : SlIs W A (lenRq d) (yV (bytRq d))) => getReq_any A (lenRq d) c (bytRq d) hby h1 h2 (by omega) W hs)
  generalize readRq (lenRq d) (bytRq d) = q at *
  obtain ⟨d', st⟩ := q
  simp only [GotRq, cRq] at HQ
  replace HQ := Lib.hid HQ
  obtain ⟨b1, b2, b3⟩ := hback
  dsimp only at b1 b2 b3
  replace b3 := Lib.hid b3
  generalize lenRq d = N at *
  generalize bytRq d = D at *
  have hmc : Hid (manyC d = decide ((d.kd = 1 ∧ 30 < d.an) ∨ (d.kd = 2 ∧ 30 < d.tn) ∨ ((d.kd = 3 ∨ d.kd = 4) ∧ 30 < d.un))) := Lib.hid rfl
  unfold Reads at hrd
  dsimp only at hrd
  generalize manyC d = mb at *
  clear hm hfit hs hok
  have hN' : ((N : Int) == 0) = false := beq_eq_false_iff_ne.2 (by omega)
  go_enter Try.func5, Try.ntmps5
  go_wp2_with fail
  refine (HG.out _ _ (by simp)).mono ?_
  rintro e1 w1 ⟨rfl, hb1⟩
  have hb2 := Lib.hid ((bel_alloc (bel_alloc (Below.refl _ _) _) _ : Below w.heap.size w _).trans (hb1.mono (by simp; omega)))
  have g_x := (((Blk.new _ _ _).kept (bel_alloc (Below.refl _ _) _)).kept hb1 : Blk w1 w.heap.size 46 #[.int .i64 d.kd, .slice AA d.an ac, .slice TA d.tn tc, .slice UA d.un uc, .int .u64 (d.FF 0), .int .u64 (d.FF 1), .int .u64 (d.FF 2), .int .u64 (d.FF 3), .int .u32 (d.FF 4), .int .u32 (d.FF 5)])
  clear hb1
  have r_x := rowAt_blk g_x
  go_wp2_with fail
  refine (HP.out _ hb2.out).mono ?_
  rintro e3 w3 ⟨v3, rfl, ho3, hb3⟩
  replace hb2 := Lib.hid (bel_eld hb2.out hb3)
  replace g_x := g_x.kept hb3
  obtain ⟨A3, c3, rfl, j1, j2, s3⟩ := ho3.byS
  have q3 := fun e => conv8 (s3.below (grow_below w3 e)) c3
  have HRm := Lib.hid (fun e => HR.out (Grow w3 e) (hb2.out.trans ((grow_below w3 e).mono hb2.out.size)))
  clear hb3 ho3 r_x
  replace s3 := Lib.hid s3
  have r_x := rowAt_blk g_x
  have x0 := (g_x).cell 0
  have x1 := (g_x).cell 1
  have x2 := (g_x).cell 2
  have x3 := (g_x).cell 3
  have x4 := (g_x).cell 4
  have x5 := (g_x).cell 5
  have x6 := (g_x).cell 6
  have x7 := (g_x).cell 7
  have x8 := (g_x).cell 8
  have x9 := (g_x).cell 9
  have xf0 := (g_x).frozen 0
  have xf1 := (g_x).frozen 1
  have xf2 := (g_x).frozen 2
  have xf3 := (g_x).frozen 3
  have xf4 := (g_x).frozen 4
  have xf5 := (g_x).frozen 5
  have xf6 := (g_x).frozen 6
  have xf7 := (g_x).frozen 7
  have xf8 := (g_x).frozen 8
  have xf9 := (g_x).frozen 9
  have xl := (g_x).lt
  replace g_x := Lib.hid g_x
  go_wp2_with fail
  first | (with_reducible refine rgrow2 (by kernel_rfl) (by kernel_rfl) ?_) | (refine rgrow (by kernel_rfl) (by kernel_rfl) ?_)
  repeat (go_big_quiet_step (((go_at_call 14; exact grow_call (HRm.out _)))))
  refine wpQuiet_nil ?_
  intro dr
  go_wp2_with fail
  replace hb2 := Lib.hid (hb2.out.trans ((grow_below w3 dr).mono hb2.out.size))
  replace g_x := Lib.hid (g_x.out.kept (grow_below w3 dr))
  replace s3 := Lib.hid (s3.out.below (grow_below w3 dr))
  generalize Grow w3 dr = w4 at *
  clear HRm HR HP HG q3 r_x x0 x1 x2 x3 x4 x5 x6 x7 x8 x9 xf0 xf1 xf2 xf3 xf4 xf5 xf6 xf7 xf8 xf9 xl
  refine (HQ.out A3 c3 w4 j1 j2 s3.out).mono ?_
  rintro e5 w5 ⟨AB, TB, UB, ab, tb, ub, rfl, hi5, hb5⟩
  have HB := (fun W (hb : Below w5.heap.size w5 W) => putReq_any d' AB TB UB ab tb ub W b1 b2 (hi5.below hb))
  simp only [cRq] at HB
  replace HB := Lib.hid HB
  have hb6 := Lib.hid (bel_eld hb2.out hb5)
  replace g_x := Lib.hid (g_x.out.kept hb5)
  replace s3 := Lib.hid (s3.out.below hb5)
  clear HQ hb5 hb2 hi5
  go_upto_region 7 with fail
  refine abs_wp (fun X => Below w5.heap.size w5 X ∧ Blk X w5.heap.size 46 #[.int .i64 d'.kd, .slice AB d'.an ab, .slice TB d'.tn tb, .slice UB d'.un ub, .int .u64 (d'.FF 0), .int .u64 (d'.FF 1), .int .u64 (d'.FF 2), .int .u64 (d'.FF 3), .int .u32 (d'.FF 4), .int .u32 (d'.FF 5)]) ⟨bel_alloc (Below.refl _ _) _, Blk.new _ _ _⟩ ?_
  rintro Z ⟨hbX, g_t⟩
  replace hb6 := Lib.hid (bel_eld hb6.out hbX)
  replace g_x := Lib.hid (g_x.out.kept hbX)
  replace s3 := Lib.hid (s3.out.below hbX)
  replace HB := Lib.hid (fun W (hb : Below Z.heap.size Z W) => HB.out W (bel_eld hbX hb))
  clear hbX
  replace g_t := Lib.hid g_t
  have x0 := (g_x.out).cell 0
  have x1 := (g_x.out).cell 1
  have x2 := (g_x.out).cell 2
  have x3 := (g_x.out).cell 3
  have x4 := (g_x.out).cell 4
  have x5 := (g_x.out).cell 5
  have x6 := (g_x.out).cell 6
  have x7 := (g_x.out).cell 7
  have x8 := (g_x.out).cell 8
  have x9 := (g_x.out).cell 9
  have xf0 := (g_x.out).frozen 0
  have xf1 := (g_x.out).frozen 1
  have xf2 := (g_x.out).frozen 2
  have xf3 := (g_x.out).frozen 3
  have xf4 := (g_x.out).frozen 4
  have xf5 := (g_x.out).frozen 5
  have xf6 := (g_x.out).frozen 6
  have xf7 := (g_x.out).frozen 7
  have xf8 := (g_x.out).frozen 8
  have xf9 := (g_x.out).frozen 9
  have xl := (g_x.out).lt
  go_cut [6] (fun s wx => s = .bool mb ∧ Z = wx)
  case first =>
    by_cases h1 : d.kd = 1
    · have k1 : (d.kd == 1) = true := by simp [h1]
      have k2 : (d.kd == 2) = false := by simp [h1]
      have k3 : (d.kd == 3) = false := by simp [h1]
      have k4 : (d.kd == 4) = false := by simp [h1]
      by_cases h2 : 30 < d.an
      · have k5 : decide ((d.an : Int) > 30) = true := decide_eq_true (by omega)
        go_wp2_with fail
        go_meet
        exact ⟨by rw [hmc.out, decide_eq_true (Or.inl ⟨h1, h2⟩)], rfl⟩
      · have k5 : decide ((d.an : Int) > 30) = false := decide_eq_false (by omega)
        go_wp2_with fail
        go_meet
        exact ⟨by rw [hmc.out, decide_eq_false (by omega)], rfl⟩
    · have k1 : (d.kd == 1) = false := by simp [h1]
      by_cases h2 : d.kd = 2
      · have k2 : (d.kd == 2) = true := by simp [h2]
        have k3 : (d.kd == 3) = false := by simp [h2]
        have k4 : (d.kd == 4) = false := by simp [h2]
        by_cases h3 : 30 < d.tn
        · have k5 : decide ((d.tn : Int) > 30) = true := decide_eq_true (by omega)
          go_wp2_with fail
          go_meet
          exact ⟨by rw [hmc.out, decide_eq_true (Or.inr (Or.inl ⟨h2, h3⟩))], rfl⟩
        · have k5 : decide ((d.tn : Int) > 30) = false := decide_eq_false (by omega)
          go_wp2_with fail
          go_meet
          exact ⟨by rw [hmc.out, decide_eq_false (by omega)], rfl⟩
      · have k2 : (d.kd == 2) = false := by simp [h2]
        by_cases h3 : d.kd = 3
        · have k3 : (d.kd == 3) = true := by simp [h3]
          by_cases h4 : 30 < d.un
          · have k5 : decide ((d.un : Int) > 30) = true := decide_eq_true (by omega)
            go_wp2_with fail
            go_meet
            exact ⟨by rw [hmc.out, decide_eq_true (Or.inr (Or.inr ⟨Or.inl h3, h4⟩))], rfl⟩
          · have k5 : decide ((d.un : Int) > 30) = false := decide_eq_false (by omega)
            go_wp2_with fail
            go_meet
            exact ⟨by rw [hmc.out, decide_eq_false (by omega)], rfl⟩
        · have k3 : (d.kd == 3) = false := by simp [h3]
          by_cases h4 : d.kd = 4
          · have k4 : (d.kd == 4) = true := by simp [h4]
            by_cases h5 : 30 < d.un
            · have k5 : decide ((d.un : Int) > 30) = true := decide_eq_true (by omega)
              go_wp2_with fail
              go_meet
              exact ⟨by rw [hmc.out, decide_eq_true (Or.inr (Or.inr ⟨Or.inr h4, h5⟩))], rfl⟩
            · have k5 : decide ((d.un : Int) > 30) = false := decide_eq_false (by omega)
              go_wp2_with fail
              go_meet
              exact ⟨by rw [hmc.out, decide_eq_false (by omega)], rfl⟩
          · have k4 : (d.kd == 4) = false := by simp [h4]
            go_wp2_with fail
            go_meet
            exact ⟨by rw [hmc.out, decide_eq_false (by omega)], rfl⟩
  case rest =>
    obtain ⟨rfl, rfl⟩ := hcut
    have k5 : decide (d.kd < 1) = false := decide_eq_false (by omega)
    have k6 : decide (d.kd > 7) = false := decide_eq_false (by omega)
    rcases hrd with ⟨rfl, hq⟩ | ⟨rfl, hq1, hq2⟩
    · obtain ⟨rfl, rfl⟩ := Prod.mk.inj hq
      simp only [zeroRq] at g_t
      have y0 := (g_t.out).cell 0
      have y1 := (g_t.out).cell 1
      have y2 := (g_t.out).cell 2
      have y3 := (g_t.out).cell 3
      have y4 := (g_t.out).cell 4
      have y5 := (g_t.out).cell 5
      have y6 := (g_t.out).cell 6
      have y7 := (g_t.out).cell 7
      have y8 := (g_t.out).cell 8
      have y9 := (g_t.out).cell 9
      have yf0 := (g_t.out).frozen 0
      have yf1 := (g_t.out).frozen 1
      have yf2 := (g_t.out).frozen 2
      have yf3 := (g_t.out).frozen 3
      have yf4 := (g_t.out).frozen 4
      have yf5 := (g_t.out).frozen 5
      have yf6 := (g_t.out).frozen 6
      have yf7 := (g_t.out).frozen 7
      have yf8 := (g_t.out).frozen 8
      have yf9 := (g_t.out).frozen 9
      have yl := (g_t.out).lt
      go_wp2_with fail
      refine (HX.out _).mono ?_
      rintro e7 w7 ⟨rfl, hb7⟩
      have hb8 := Lib.hid (bel_eld hb6.out hb7)
      have g_t7 := g_t.out.kept hb7
      clear hb7 y0 y1 y2 y3 y4 y5 y6 y7 y8 y9 yf0 yf1 yf2 yf3 yf4 yf5 yf6 yf7 yf8 yf9 yl
      have y0 := (g_t7).cell 0
      have y1 := (g_t7).cell 1
      have y2 := (g_t7).cell 2
      have y3 := (g_t7).cell 3
      have y4 := (g_t7).cell 4
      have y5 := (g_t7).cell 5
      have y6 := (g_t7).cell 6
      have y7 := (g_t7).cell 7
      have y8 := (g_t7).cell 8
      have y9 := (g_t7).cell 9
      have yf0 := (g_t7).frozen 0
      have yf1 := (g_t7).frozen 1
      have yf2 := (g_t7).frozen 2
      have yf3 := (g_t7).frozen 3
      have yf4 := (g_t7).frozen 4
      have yf5 := (g_t7).frozen 5
      have yf6 := (g_t7).frozen 6
      have yf7 := (g_t7).frozen 7
      have yf8 := (g_t7).frozen 8
      have yf9 := (g_t7).frozen 9
      have yl := (g_t7).lt
      go_wp2_with fail
      go_ret
      exact ⟨rfl, hb8.out⟩
    · subst hq1
      rcases b3.out with ⟨_, z1, z2⟩ | ⟨z0, _⟩
      rotate_left
      · exact absurd rfl z0
      have hS := Lib.hid (strF_congr z2)
      rw [z1] at HB
      clear z1 z2 b3 hmc hby
      generalize bytRq d' = D' at *
      have hb62 := hb6.out
      have k7 : (d'.kd == d.kd) = true := by simp [hq2]
      clear hq2
      go_upto_region 12 with fail
      clear x0 x1 x2 x3 x4 x5 x6 x7 x8 x9 xf0 xf1 xf2 xf3 xf4 xf5 xf6 xf7 xf8 xf9 xl
      have c1 : ∀ n_ d_, (Grow (Grow Z n_) d_).cell? ⟨w5.heap.size, 0, none⟩ = some (.int .i64 d'.kd) := fun n_ d_ => ((g_t.out.grow n_).grow d_).cell 0
      have c2 : ∀ n_ d_, (Grow (Grow Z n_) d_).cell? ⟨w.heap.size, 0, none⟩ = some (.int .i64 d.kd) := fun n_ d_ => ((g_x.out.grow n_).grow d_).cell 0
      have r1 : ∀ n_ d_, rowAt (Grow (Grow Z n_) d_) w5.heap.size = some #[.int .i64 d'.kd, .slice AB d'.an ab, .slice TB d'.tn tb, .slice UB d'.un ub, .int .u64 (d'.FF 0), .int .u64 (d'.FF 1), .int .u64 (d'.FF 2), .int .u64 (d'.FF 3), .int .u32 (d'.FF 4), .int .u32 (d'.FF 5)] := fun n_ d_ => rowAt_blk ((g_t.out.grow n_).grow d_)
      have a1 : ∀ n_ d_, (convert 31 9 (.slice A3 N c3)).run Try.prog (Grow (Grow Z n_) d_) = .ok (.string (strF D N)) (Grow (Grow Z n_) d_) := fun n_ d_ => conv8 (s3.out.below (bel_grow (grow_below Z n_) d_)) c3
      refine wp_region_loose (W0 := Z) (H := [126]) (L := LWR N D') LWR_up (by kernel_rfl) (by kernel_rfl) (Below.refl _ _) (by simp) ?_
      iterate 14 (apply lexY_quiet 132 rfl (by kernel_rfl) (by kernel_rfl); intro n_ K_ hK_; go_big_quiet_op; first | exact hK_ | (apply Exists.intro; refine ⟨fun _ => ?_, ?_⟩; (go_at_call 8; with_reducible exact grow_call (HX.out _)); exact hK_))
      apply lexY_loose 126 (by kernel_rfl) (by kernel_rfl) 13 #[.agg #[.int .i64 d'.kd, .slice AB d'.an ab, .slice TB d'.tn tb, .slice UB d'.un ub, .int .u64 (d'.FF 0), .int .u64 (d'.FF 1), .int .u64 (d'.FF 2), .int .u64 (d'.FF 3), .int .u32 (d'.FF 4), .int .u32 (d'.FF 5)]]
      case hx =>
        intro W
        simp [go_sem]
      case hc =>
        intro n_
        refine (HB.out _ (grow_below Z n_)).mono ?_
        rintro r w' ⟨v, rfl, ho, hb⟩
        obtain ⟨A8, c8, rfl, _, _, s8⟩ := ho.byS
        exact ⟨_, rfl, hb, A8, c8, rfl, s8⟩
      case ha =>
        simp only [Act.put, List.setIfInBounds_toArray, List.set_cons_succ, List.set_cons_zero]
        exact rfl
      apply lexY_dep 126 (.string (strF D N)) (by kernel_rfl) (by kernel_rfl)
      case hx =>
        rintro n_ u ⟨A8, c8, rfl, s8⟩
        have q := conv8 s8 c8
        rw [hS.out] at q
        simp [execOp, ovr, q]
      case ha =>
        simp only [Act.put, List.setIfInBounds_toArray, List.set_cons_succ, List.set_cons_zero]
        exact rfl
      repeat (apply lexY_quiet 132 rfl (by kernel_rfl) (by kernel_rfl); intro n_ K_ hK_; go_big_quiet_op; first | exact hK_ | (apply Exists.intro; refine ⟨fun _ => ?_, ?_⟩; (go_at_call 8; with_reducible exact grow_call (HX.out _)); exact hK_))
      intro a9 w9 hb9 hag
      obtain ⟨u126, rfl⟩ := hag.one
      simp only [Act.put, List.setIfInBounds_toArray, List.set_cons_succ, List.set_cons_zero]
      clear a1 r1 c1 c2 hag
      replace hb9 := Lib.hid (bel_eld hb62 hb9)
      go_wp2_with fail
      go_ret
      exact ⟨rfl, hb9.out⟩
end
theorem wireRequests_any (kd : Int) (AA TA UA : Option Addr) (an ac tn tc un uc : Nat) (AF TF UF : Nat → Nat → Int) (fa fb fc fd fe ff : Int) (w : World) (hm : an ≤ maxLen ∧ tn ≤ maxLen ∧ un ≤ maxLen)
    (hs : SsIs w AA an 15 (fun i => clA (AF i)) ∧ SsIs w TA tn 16 (fun i => clT (TF i)) ∧ SsIs w UA un 2 (fun i => clU (UF i))) (h1 : ∀ i, okA (AF i)) (h2 : ∀ i, okT (TF i)) (h3 : ∀ i, okU (UF i)) (ha : 0 ≤ fa ∧ fa < 18446744073709551616) (hb : 0 ≤ fb ∧ fb < 18446744073709551616) (hc : 0 ≤ fc ∧ fc < 18446744073709551616) (hd : 0 ≤ fd ∧ fd < 18446744073709551616) (he : 0 ≤ fe ∧ fe < 4294967296) (hf : 0 ≤ ff ∧ ff < 4294967296) :
    Calls Try.prog 5 #[.agg #[.int .i64 kd, .slice AA an ac, .slice TA tn tc, .slice UA un uc, .int .u64 fa, .int .u64 fb, .int .u64 fc, .int .u64 fd, .int .u32 fe, .int .u32 ff]] w fun r w' => r = .returned (.bool true) ∧ Below w.heap.size w w' := by
  have hF : okF (fun j => ([fa, fb, fc, fd, fe, ff] : List Int).getD j 0)
    | 0 => ha | 1 => hb | 2 => hc | 3 => hd | 4 => he | 5 => hf | _ + 6 => (show 0 ≤ (0 : Int) ∧ (0 : Int) < 1 by decide)
  cases h : manyRq ⟨kd, an, AF, tn, TF, un, UF, fun j => ([fa, fb, fc, fd, fe, ff] : List Int).getD j 0⟩ with
  | true => exact wireRequests_far ⟨kd, an, AF, tn, TF, un, UF, fun j => ([fa, fb, fc, fd, fe, ff] : List Int).getD j 0⟩ AA TA UA ac tc uc w hm h
  | false =>
    by_cases hk : kd < 1 ∨ 7 < kd
    · exact wireRequests_bad ⟨kd, an, AF, tn, TF, un, UF, fun j => ([fa, fb, fc, fd, fe, ff] : List Int).getD j 0⟩ AA TA UA ac tc uc w ⟨h1, h2, h3, hF⟩ h hs hk
    · exact wireRequests_good ⟨kd, an, AF, tn, TF, un, UF, fun j => ([fa, fb, fc, fd, fe, ff] : List Int).getD j 0⟩ AA TA UA ac tc uc w ⟨h1, h2, h3, hF⟩ h hs hk
end Go.Proofs.Ytncampbmnbhikaa
