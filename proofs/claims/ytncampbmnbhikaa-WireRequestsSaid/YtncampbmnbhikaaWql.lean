/-
  The document's GetRequest, walked: whatever the bytes; what was read has them.
-/
import Derived.Test.YtncampbmnbhikaaWqi
import Derived.Test.YtncampbmnbhikaaWqj
import Derived.Test.YtncampbmnbhikaaWqk
namespace Go.Proofs.Ytncampbmnbhikaa
set_option linter.unusedVariables false
set_option linter.unusedSimpArgs false
open Go.RowKit

theorem gotZ {r : Ending} {w w' : World} {st : Nat} (h : r = .returned (.tuple #[.agg #[.int .i64 0, .slice none 0 0, .slice none 0 0, .slice none 0 0, .int .u64 0, .int .u64 0, .int .u64 0, .int .u64 0, .int .u32 0, .int .u32 0], .int .i64 st]) ∧ Below w.heap.size w w') : GotRq r w w' (zeroRq, st) := ⟨none, none, none, 0, 0, 0, h.1, OwnRq.zero.is (base := 0), h.2⟩
theorem readRq_0 {n : Nat} {e : Nat → Int} (h : n = 0) : readRq n e = (zeroRq, 1) := if_pos h
theorem readRq_no {n : Nat} {e : Nat → Int} (h : n ≠ 0) (h2 : (parseRq (e 0) (n - 1) (shf e 1)).2.2 = false) : readRq n e = (zeroRq, 1) := (if_neg h).trans (if_pos h2)
theorem readRq_many {n : Nat} {e : Nat → Int} (h : n ≠ 0) (h2 : (parseRq (e 0) (n - 1) (shf e 1)).2.2 = true) (h3 : 30 < (parseRq (e 0) (n - 1) (shf e 1)).2.1) : readRq n e = (zeroRq, 2) := (if_neg h).trans ((if_neg (by rw [h2]; decide)).trans (if_pos h3))
theorem readRq_yes {n : Nat} {e : Nat → Int} {d : Rq} {q : Nat} (h : n ≠ 0) (h2 : parseRq (e 0) (n - 1) (shf e 1) = (d, q, true)) (h3 : q ≤ 30) : readRq n e = (d, 0) := by
  unfold readRq
  rw [h2, if_neg h, if_neg (by simp), if_neg (by simp; omega)]
theorem parse_1_y {n : Nat} {e : Nat → Int} (h : n % 104 = 0) : parseRq 1 n e = ({ zeroRq with kd := 1, an := n / 104, AF := fun i => rdA (shf e (i * 104)) }, n / 104, true) := by
  unfold parseRq
  rw [if_pos rfl, if_pos h]
theorem parse_1_n {n : Nat} {e : Nat → Int} (h : n % 104 ≠ 0) : parseRq 1 n e = ({ zeroRq with kd := 1 }, 0, false) := by
  unfold parseRq
  rw [if_pos rfl, if_neg h]
theorem parse_2_y {n : Nat} {e : Nat → Int} (h : n % 108 = 0) : parseRq 2 n e = ({ zeroRq with kd := 2, tn := n / 108, TF := fun i => rdT (shf e (i * 108)) }, n / 108, true) := by
  unfold parseRq
  rw [if_neg (by decide), if_pos rfl, if_pos h]
theorem parse_2_n {n : Nat} {e : Nat → Int} (h : n % 108 ≠ 0) : parseRq 2 n e = ({ zeroRq with kd := 2 }, 0, false) := by
  unfold parseRq
  rw [if_neg (by decide), if_pos rfl, if_neg h]
theorem parse_3_y {n : Nat} {e : Nat → Int} (h : n % 16 = 0) : parseRq 3 n e = ({ zeroRq with kd := 3, un := n / 16, UF := fun i => rdU (shf e (i * 16)) }, n / 16, true) := by
  unfold parseRq
  rw [if_neg (by decide), if_neg (by decide), if_pos rfl, if_pos h]
theorem parse_3_n {n : Nat} {e : Nat → Int} (h : n % 16 ≠ 0) : parseRq 3 n e = ({ zeroRq with kd := 3 }, 0, false) := by
  unfold parseRq
  rw [if_neg (by decide), if_neg (by decide), if_pos rfl, if_neg h]
theorem parse_4_y {n : Nat} {e : Nat → Int} (h : n % 16 = 0) : parseRq 4 n e = ({ zeroRq with kd := 4, un := n / 16, UF := fun i => rdU (shf e (i * 16)) }, n / 16, true) := by
  unfold parseRq
  rw [if_neg (by decide), if_neg (by decide), if_neg (by decide), if_pos rfl, if_pos h]
theorem parse_4_n {n : Nat} {e : Nat → Int} (h : n % 16 ≠ 0) : parseRq 4 n e = ({ zeroRq with kd := 4 }, 0, false) := by
  unfold parseRq
  rw [if_neg (by decide), if_neg (by decide), if_neg (by decide), if_pos rfl, if_neg h]
theorem parse_5_y {n : Nat} {e : Nat → Int} (h : n = 40) : parseRq 5 n e = ({ zeroRq with kd := 5, FF := rdF e }, 0, true) := by
  unfold parseRq
  rw [if_neg (by decide), if_neg (by decide), if_neg (by decide), if_neg (by decide), if_pos rfl, if_pos h]
theorem parse_5_n {n : Nat} {e : Nat → Int} (h : n ≠ 40) : parseRq 5 n e = ({ zeroRq with kd := 5 }, 0, false) := by
  unfold parseRq
  rw [if_neg (by decide), if_neg (by decide), if_neg (by decide), if_neg (by decide), if_pos rfl, if_neg h]
theorem parse_6_y {n : Nat} {e : Nat → Int} (h : n = 40) : parseRq 6 n e = ({ zeroRq with kd := 6, FF := rdF e }, 0, true) := by
  unfold parseRq
  rw [if_neg (by decide), if_neg (by decide), if_neg (by decide), if_neg (by decide), if_neg (by decide), if_pos rfl, if_pos h]
theorem parse_6_n {n : Nat} {e : Nat → Int} (h : n ≠ 40) : parseRq 6 n e = ({ zeroRq with kd := 6 }, 0, false) := by
  unfold parseRq
  rw [if_neg (by decide), if_neg (by decide), if_neg (by decide), if_neg (by decide), if_neg (by decide), if_pos rfl, if_neg h]
theorem parse_7_e {n : Nat} {e : Nat → Int} : parseRq 7 n e = ({ zeroRq with kd := 7 }, 0, decide (n = 0)) := by
  unfold parseRq
  rw [if_neg (by decide), if_neg (by decide), if_neg (by decide), if_neg (by decide), if_neg (by decide), if_neg (by decide), if_pos rfl]
theorem parse_k_n {k : Int} {n : Nat} {e : Nat → Int} (h : k < 1 ∨ 7 < k) : parseRq k n e = ({ zeroRq with kd := k }, 0, false) := by
  unfold parseRq
  rw [if_neg (by omega), if_neg (by omega), if_neg (by omega), if_neg (by omega), if_neg (by omega), if_neg (by omega), if_neg (by omega)]
set_option maxHeartbeats 1000000 in
theorem refGetReq_any (n : Nat) (e : Nat → Int) (he : ∀ i, 0 ≤ e i ∧ e i < 256) (hn : n ≤ 100000) (w : World) : Calls Try.prog 16 #[.string (strF e n)] w fun r w' => GotRq r w w' (readRq n e) := by
  by_cases h : n = 0
  · rw [readRq_0 h]; exact (refGetReq_zero n e he hn w h).mono (fun r w' h => gotZ h)
  have h1 : 1 ≤ n := by omega
  by_cases hk : e 0 < 1 ∨ 7 < e 0
  · rw [readRq_no h (by rw [parse_k_n hk])]; exact (refGetReq_kd n e he hn w h1 hk).mono (fun r w' h => gotZ h)
  rcases (by omega : e 0 = 1 ∨ e 0 = 2 ∨ e 0 = 3 ∨ e 0 = 4 ∨ e 0 = 5 ∨ e 0 = 6 ∨ e 0 = 7) with h0 | h0 | h0 | h0 | h0 | h0 | h0
  · by_cases m : (n - 1) % 104 = 0
    · by_cases m2 : 30 < (n - 1) / 104
      · rw [readRq_many h (by rw [h0, parse_1_y m]) (by rw [h0, parse_1_y m]; exact m2)]
        exact (refGetReq_m1 n e he hn w h1 h0 m m2).mono (fun r w' h => gotZ h)
      · rw [readRq_yes h (by rw [h0, parse_1_y m]) (by omega)]
        refine (refGetReq_k1 ((n - 1) / 104) n e he w (by omega) (by omega) h0).mono ?_
        rintro r w' ⟨A', c', rfl, hs, hb⟩
        exact ⟨A', none, none, c', 0, 0, rfl, ⟨hs, SsIs.nil, SsIs.nil⟩, hb⟩
    · rw [readRq_no h (by rw [h0, parse_1_n m])]
      exact (refGetReq_n1 n e he hn w h1 h0 m).mono (fun r w' h => gotZ h)
  · by_cases m : (n - 1) % 108 = 0
    · by_cases m2 : 30 < (n - 1) / 108
      · rw [readRq_many h (by rw [h0, parse_2_y m]) (by rw [h0, parse_2_y m]; exact m2)]
        exact (refGetReq_m2 n e he hn w h1 h0 m m2).mono (fun r w' h => gotZ h)
      · rw [readRq_yes h (by rw [h0, parse_2_y m]) (by omega)]
        refine (refGetReq_k2 ((n - 1) / 108) n e he w (by omega) (by omega) h0).mono ?_
        rintro r w' ⟨A', c', rfl, hs, hb⟩
        exact ⟨none, A', none, 0, c', 0, rfl, ⟨SsIs.nil, hs, SsIs.nil⟩, hb⟩
    · rw [readRq_no h (by rw [h0, parse_2_n m])]
      exact (refGetReq_n2 n e he hn w h1 h0 m).mono (fun r w' h => gotZ h)
  · by_cases m : (n - 1) % 16 = 0
    · by_cases m2 : 30 < (n - 1) / 16
      · rw [readRq_many h (by rw [h0, parse_3_y m]) (by rw [h0, parse_3_y m]; exact m2)]
        exact (refGetReq_m3 n e he hn w h1 h0 m m2).mono (fun r w' h => gotZ h)
      · rw [readRq_yes h (by rw [h0, parse_3_y m]) (by omega)]
        refine (refGetReq_k3 ((n - 1) / 16) n e he w (by omega) (by omega) h0).mono ?_
        rintro r w' ⟨A', c', rfl, hs, hb⟩
        exact ⟨none, none, A', 0, 0, c', rfl, ⟨SsIs.nil, SsIs.nil, hs⟩, hb⟩
    · rw [readRq_no h (by rw [h0, parse_3_n m])]
      exact (refGetReq_n3 n e he hn w h1 h0 m).mono (fun r w' h => gotZ h)
  · by_cases m : (n - 1) % 16 = 0
    · by_cases m2 : 30 < (n - 1) / 16
      · rw [readRq_many h (by rw [h0, parse_4_y m]) (by rw [h0, parse_4_y m]; exact m2)]
        exact (refGetReq_m4 n e he hn w h1 h0 m m2).mono (fun r w' h => gotZ h)
      · rw [readRq_yes h (by rw [h0, parse_4_y m]) (by omega)]
        refine (refGetReq_k4 ((n - 1) / 16) n e he w (by omega) (by omega) h0).mono ?_
        rintro r w' ⟨A', c', rfl, hs, hb⟩
        exact ⟨none, none, A', 0, 0, c', rfl, ⟨SsIs.nil, SsIs.nil, hs⟩, hb⟩
    · rw [readRq_no h (by rw [h0, parse_4_n m])]
      exact (refGetReq_n4 n e he hn w h1 h0 m).mono (fun r w' h => gotZ h)
  · by_cases m : n - 1 = 40
    · rw [readRq_yes h (by rw [h0, parse_5_y m]) (by omega)]
      refine (refGetReq_f5 n e he hn w (by omega) h0).mono ?_
      rintro r w' ⟨rfl, hb⟩
      exact ⟨none, none, none, 0, 0, 0, rfl, ⟨SsIs.nil, SsIs.nil, SsIs.nil⟩, hb⟩
    · rw [readRq_no h (by rw [h0, parse_5_n m])]
      by_cases m2 : (n - 1) % 40 = 0
      · exact (refGetReq_o5 n e he hn w h1 h0 m2 m).mono (fun r w' h => gotZ h)
      · exact (refGetReq_n5 n e he hn w h1 h0 m2).mono (fun r w' h => gotZ h)
  · by_cases m : n - 1 = 40
    · rw [readRq_yes h (by rw [h0, parse_6_y m]) (by omega)]
      refine (refGetReq_f6 n e he hn w (by omega) h0).mono ?_
      rintro r w' ⟨rfl, hb⟩
      exact ⟨none, none, none, 0, 0, 0, rfl, ⟨SsIs.nil, SsIs.nil, SsIs.nil⟩, hb⟩
    · rw [readRq_no h (by rw [h0, parse_6_n m])]
      by_cases m2 : (n - 1) % 40 = 0
      · exact (refGetReq_o6 n e he hn w h1 h0 m2 m).mono (fun r w' h => gotZ h)
      · exact (refGetReq_n6 n e he hn w h1 h0 m2).mono (fun r w' h => gotZ h)
  · by_cases m : n = 1
    · rw [readRq_yes (d := { zeroRq with kd := 7 }) (q := 0) h (by rw [h0, parse_7_e, decide_eq_true (by omega : n - 1 = 0)]) (by omega)]
      refine (refGetReq_k7 n e he hn w m h0).mono ?_
      rintro r w' ⟨rfl, hb⟩
      exact ⟨none, none, none, 0, 0, 0, rfl, ⟨SsIs.nil, SsIs.nil, SsIs.nil⟩, hb⟩
    · rw [readRq_no h (by rw [h0, parse_7_e]; exact decide_eq_false (by omega))]
      exact (refGetReq_n7 n e he hn w (by omega) h0).mono (fun r w' h => gotZ h)
/-- what was read, if it is one, has the bytes; else it is nothing -/
def Back (n : Nat) (e : Nat → Int) (q : Rq × Nat) : Prop := okRq q.1 ∧ fitRq q.1 ∧ ((q.2 = 0 ∧ lenRq q.1 = n ∧ ∀ j, j < n → bytRq q.1 j = e j) ∨ (q.2 ≠ 0 ∧ q.1 = zeroRq))
theorem okRq_zero : okRq zeroRq := ⟨fun _ => ok_zeroA, fun _ => ok_zeroT, fun _ => ok_zeroU, ok_zeroF⟩
theorem fitRq_zero : fitRq zeroRq := by unfold fitRq zeroRq; simp
theorem back_z {n : Nat} {e : Nat → Int} {st : Nat} (h : st ≠ 0) : Back n e (zeroRq, st) := ⟨okRq_zero, fitRq_zero, Or.inr ⟨h, rfl⟩⟩
set_option maxHeartbeats 1000000 in
theorem readRq_back (n : Nat) (e : Nat → Int) (he : ∀ i, 0 ≤ e i ∧ e i < 256) : Back n e (readRq n e) := by
  by_cases h : n = 0
  · rw [readRq_0 h]; exact back_z (by decide)
  by_cases hk : e 0 < 1 ∨ 7 < e 0
  · rw [readRq_no h (by rw [parse_k_n hk])]; exact back_z (by decide)
  have he1 := shf_lo he 1
  rcases (by omega : e 0 = 1 ∨ e 0 = 2 ∨ e 0 = 3 ∨ e 0 = 4 ∨ e 0 = 5 ∨ e 0 = 6 ∨ e 0 = 7) with h0 | h0 | h0 | h0 | h0 | h0 | h0
  · by_cases m : (n - 1) % 104 = 0
    · by_cases m2 : 30 < (n - 1) / 104
      · rw [readRq_many h (by rw [h0, parse_1_y m]) (by rw [h0, parse_1_y m]; exact m2)]
        exact back_z (by decide)
      · rw [readRq_yes h (by rw [h0, parse_1_y m]) (by omega)]
        refine ⟨⟨fun i => ok_rdA (shf_lo he1 _), fun _ => ok_zeroT, fun _ => ok_zeroU, ok_zeroF⟩, by unfold fitRq zeroRq; dsimp only; omega, Or.inl ⟨rfl, ?_, fun j hj => ?_⟩⟩
        · simp [lenRq, zeroRq]; omega
        · have e1 := rq1_R he h0 (by omega) m j hj
          simp [bytRq, zeroRq]
          exact e1
    · rw [readRq_no h (by rw [h0, parse_1_n m])]
      exact back_z (by decide)
  · by_cases m : (n - 1) % 108 = 0
    · by_cases m2 : 30 < (n - 1) / 108
      · rw [readRq_many h (by rw [h0, parse_2_y m]) (by rw [h0, parse_2_y m]; exact m2)]
        exact back_z (by decide)
      · rw [readRq_yes h (by rw [h0, parse_2_y m]) (by omega)]
        refine ⟨⟨fun _ => ok_zeroA, fun i => ok_rdT (shf_lo he1 _), fun _ => ok_zeroU, ok_zeroF⟩, by unfold fitRq zeroRq; dsimp only; omega, Or.inl ⟨rfl, ?_, fun j hj => ?_⟩⟩
        · simp [lenRq, zeroRq]; omega
        · have e1 := rq2_R he h0 (by omega) m j hj
          simp [bytRq, zeroRq]
          exact e1
    · rw [readRq_no h (by rw [h0, parse_2_n m])]
      exact back_z (by decide)
  · by_cases m : (n - 1) % 16 = 0
    · by_cases m2 : 30 < (n - 1) / 16
      · rw [readRq_many h (by rw [h0, parse_3_y m]) (by rw [h0, parse_3_y m]; exact m2)]
        exact back_z (by decide)
      · rw [readRq_yes h (by rw [h0, parse_3_y m]) (by omega)]
        refine ⟨⟨fun _ => ok_zeroA, fun _ => ok_zeroT, fun i => ok_rdU (shf_lo he1 _), ok_zeroF⟩, by unfold fitRq zeroRq; dsimp only; omega, Or.inl ⟨rfl, ?_, fun j hj => ?_⟩⟩
        · simp [lenRq, zeroRq]; omega
        · have e1 := rq3_R he h0 (by omega) m j hj
          simp [bytRq, zeroRq]
          exact e1
    · rw [readRq_no h (by rw [h0, parse_3_n m])]
      exact back_z (by decide)
  · by_cases m : (n - 1) % 16 = 0
    · by_cases m2 : 30 < (n - 1) / 16
      · rw [readRq_many h (by rw [h0, parse_4_y m]) (by rw [h0, parse_4_y m]; exact m2)]
        exact back_z (by decide)
      · rw [readRq_yes h (by rw [h0, parse_4_y m]) (by omega)]
        refine ⟨⟨fun _ => ok_zeroA, fun _ => ok_zeroT, fun i => ok_rdU (shf_lo he1 _), ok_zeroF⟩, by unfold fitRq zeroRq; dsimp only; omega, Or.inl ⟨rfl, ?_, fun j hj => ?_⟩⟩
        · simp [lenRq, zeroRq]; omega
        · have e1 := rq3_R he h0 (by omega) m j hj
          simp [bytRq, zeroRq]
          exact e1
    · rw [readRq_no h (by rw [h0, parse_4_n m])]
      exact back_z (by decide)
  · by_cases m : n - 1 = 40
    · rw [readRq_yes h (by rw [h0, parse_5_y m]) (by omega)]
      refine ⟨⟨fun _ => ok_zeroA, fun _ => ok_zeroT, fun _ => ok_zeroU, ok_rdF he1⟩, by unfold fitRq zeroRq; simp, Or.inl ⟨rfl, ?_, fun j hj => ?_⟩⟩
      · simp [lenRq, zeroRq]; omega
      · have e1 := rq5_R he h0 j (by omega)
        simp [bytRq, zeroRq]
        exact e1
    · rw [readRq_no h (by rw [h0, parse_5_n m])]
      exact back_z (by decide)
  · by_cases m : n - 1 = 40
    · rw [readRq_yes h (by rw [h0, parse_6_y m]) (by omega)]
      refine ⟨⟨fun _ => ok_zeroA, fun _ => ok_zeroT, fun _ => ok_zeroU, ok_rdF he1⟩, by unfold fitRq zeroRq; simp, Or.inl ⟨rfl, ?_, fun j hj => ?_⟩⟩
      · simp [lenRq, zeroRq]; omega
      · have e1 := rq5_R he h0 j (by omega)
        simp [bytRq, zeroRq]
        exact e1
    · rw [readRq_no h (by rw [h0, parse_6_n m])]
      exact back_z (by decide)
  · by_cases m : n = 1
    · rw [readRq_yes (d := { zeroRq with kd := 7 }) (q := 0) h (by rw [h0, parse_7_e, decide_eq_true (by omega : n - 1 = 0)]) (by omega)]
      refine ⟨⟨fun _ => ok_zeroA, fun _ => ok_zeroT, fun _ => ok_zeroU, ok_zeroF⟩, by unfold fitRq zeroRq; simp, Or.inl ⟨rfl, ?_, fun j hj => ?_⟩⟩
      · simp [lenRq, zeroRq]; omega
      · obtain rfl : j = 0 := by omega
        simp [bytRq, zeroRq, hd1, h0]
    · rw [readRq_no h (by rw [h0, parse_7_e]; exact decide_eq_false (by omega))]
      exact back_z (by decide)
end Go.Proofs.Ytncampbmnbhikaa
