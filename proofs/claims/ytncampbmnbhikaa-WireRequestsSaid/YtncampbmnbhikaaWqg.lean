/-
  Requests as values: what PutRequest and the document's Request answer, at any; what was read has the bytes.
-/
import Derived.Test.YtncampbmnbhikaaWqa
import Derived.Test.YtncampbmnbhikaaWqb
import Derived.Test.YtncampbmnbhikaaWqf
import Derived.Test.YtncampbmnbhikaaJ19
import Derived.Test.YtncampbmnbhikaaJ20
namespace Go.Proofs.Ytncampbmnbhikaa
set_option linter.unusedVariables false
set_option linter.unusedSimpArgs false
open Go.RowKit

def okF (f : Nat → Int) : Prop := ∀ j, 0 ≤ f j ∧ f j < ([18446744073709551616, 18446744073709551616, 18446744073709551616, 18446744073709551616, 4294967296, 4294967296] : List Int).getD j 1
def byF (f : Nat → Int) : Nat → Int := putFilterD (f 0) (f 1) (f 2) (f 3) (f 4) (f 5)
def okRq (d : Rq) : Prop := (∀ i, okA (d.AF i)) ∧ (∀ i, okT (d.TF i)) ∧ (∀ i, okU (d.UF i)) ∧ okF d.FF
def fitRq (d : Rq) : Prop := d.an ≤ 5000 ∧ d.tn ≤ 5000 ∧ d.un ≤ 5000
def lenRq (d : Rq) : Nat := if d.kd < 1 ∨ 7 < d.kd then 0 else if d.kd = 1 then 1 + d.an * 104 else if d.kd = 2 then 1 + d.tn * 108 else if d.kd = 3 ∨ d.kd = 4 then 1 + d.un * 16 else if d.kd = 5 ∨ d.kd = 6 then 41 else 1
def bytRq (d : Rq) : Nat → Int := if d.kd = 7 then hd1 7 else cat (hd1 d.kd) 1 (if d.kd = 1 then rowsF 104 (fun i => byA (d.AF i)) else if d.kd = 2 then rowsF 108 (fun i => byT (d.TF i)) else if d.kd = 3 ∨ d.kd = 4 then rowsF 16 (fun i => byU (d.UF i)) else byF d.FF)
theorem putReq_any (d : Rq) (AA TA UA : Option Addr) (ac tc uc : Nat) (w : World) (h : okRq d) (hn : fitRq d) (hs : RqIs w AA TA UA d) :
    Calls Try.prog 13 #[cRq d AA TA UA ac tc uc] w fun r w' => ∃ v', r = .returned v' ∧ OwnB w' w.heap.size v' (lenRq d) (bytRq d) ∧ Below w.heap.size w w' := by
  obtain ⟨kd, an, AF, tn, TF, un, UF, FF⟩ := d
  obtain ⟨h1, h2, h3, h4⟩ := h
  obtain ⟨f1, f2, f3⟩ := hn
  obtain ⟨s1, s2, s3⟩ := hs
  dsimp only [cRq] at *
  by_cases c2 : kd < 1 ∨ 7 < kd
  · have e1 : lenRq ⟨kd, an, AF, tn, TF, un, UF, FF⟩ = 0 := if_pos c2
    rw [e1]
    exact (putReq_kd AA TA UA an ac tn tc un uc (FF 0) (FF 1) (FF 2) (FF 3) (FF 4) (FF 5) kd w c2).mono (by rintro r w' ⟨rfl, hb⟩; exact ⟨_, rfl, OwnB.nil _ _ _, hb⟩)
  rcases (by omega : kd = 1 ∨ kd = 2 ∨ kd = 3 ∨ kd = 4 ∨ kd = 5 ∨ kd = 6 ∨ kd = 7) with rfl | rfl | rfl | rfl | rfl | rfl | rfl
  · exact putReq_k1 AA TA UA an ac tn tc un uc (FF 0) (FF 1) (FF 2) (FF 3) (FF 4) (FF 5) AF w h1 f1 s1
  · exact putReq_k2 AA TA UA an ac tn tc un uc (FF 0) (FF 1) (FF 2) (FF 3) (FF 4) (FF 5) TF w h2 f2 s2
  · exact putReq_k3 AA TA UA an ac tn tc un uc (FF 0) (FF 1) (FF 2) (FF 3) (FF 4) (FF 5) UF w h3 f3 s3
  · exact putReq_k4 AA TA UA an ac tn tc un uc (FF 0) (FF 1) (FF 2) (FF 3) (FF 4) (FF 5) UF w h3 f3 s3
  · exact putReq_k5 AA TA UA an ac tn tc un uc (FF 0) (FF 1) (FF 2) (FF 3) (FF 4) (FF 5) (h4 0) (h4 1) (h4 2) (h4 3) (h4 4) (h4 5) w
  · exact putReq_k6 AA TA UA an ac tn tc un uc (FF 0) (FF 1) (FF 2) (FF 3) (FF 4) (FF 5) (h4 0) (h4 1) (h4 2) (h4 3) (h4 4) (h4 5) w
  · exact putReq_k7 AA TA UA an ac tn tc un uc (FF 0) (FF 1) (FF 2) (FF 3) (FF 4) (FF 5) w
theorem refReq_any (d : Rq) (AA TA UA : Option Addr) (ac tc uc : Nat) (w : World) (h : okRq d) (hn : fitRq d) (hs : RqIs w AA TA UA d) :
    Calls Try.prog 14 #[cRq d AA TA UA ac tc uc] w fun r w' => r = .returned (.string (strF (bytRq d) (lenRq d))) ∧ Below w.heap.size w w' := by
  obtain ⟨kd, an, AF, tn, TF, un, UF, FF⟩ := d
  obtain ⟨h1, h2, h3, h4⟩ := h
  obtain ⟨f1, f2, f3⟩ := hn
  obtain ⟨s1, s2, s3⟩ := hs
  dsimp only [cRq] at *
  by_cases c2 : kd < 1 ∨ 7 < kd
  · have e1 : lenRq ⟨kd, an, AF, tn, TF, un, UF, FF⟩ = 0 := if_pos c2
    rw [e1]
    exact refReq_kd AA TA UA an ac tn tc un uc (FF 0) (FF 1) (FF 2) (FF 3) (FF 4) (FF 5) kd w c2 _
  rcases (by omega : kd = 1 ∨ kd = 2 ∨ kd = 3 ∨ kd = 4 ∨ kd = 5 ∨ kd = 6 ∨ kd = 7) with rfl | rfl | rfl | rfl | rfl | rfl | rfl
  · exact refReq_k1 AA TA UA an ac tn tc un uc (FF 0) (FF 1) (FF 2) (FF 3) (FF 4) (FF 5) AF w h1 f1 s1
  · exact refReq_k2 AA TA UA an ac tn tc un uc (FF 0) (FF 1) (FF 2) (FF 3) (FF 4) (FF 5) TF w h2 f2 s2
  · exact refReq_k3 AA TA UA an ac tn tc un uc (FF 0) (FF 1) (FF 2) (FF 3) (FF 4) (FF 5) UF w h3 f3 s3
  · exact refReq_k4 AA TA UA an ac tn tc un uc (FF 0) (FF 1) (FF 2) (FF 3) (FF 4) (FF 5) UF w h3 f3 s3
  · exact refReq_k5 AA TA UA an ac tn tc un uc (FF 0) (FF 1) (FF 2) (FF 3) (FF 4) (FF 5) (h4 0) (h4 1) (h4 2) (h4 3) (h4 4) (h4 5) w
  · exact refReq_k6 AA TA UA an ac tn tc un uc (FF 0) (FF 1) (FF 2) (FF 3) (FF 4) (FF 5) (h4 0) (h4 1) (h4 2) (h4 3) (h4 4) (h4 5) w
  · exact refReq_k7 AA TA UA an ac tn tc un uc (FF 0) (FF 1) (FF 2) (FF 3) (FF 4) (FF 5) w
theorem putFilter_num {E : Nat → Int} (hE : ∀ i, 0 ≤ E i ∧ E i < 256) : ∀ j, j < 40 → putFilterD (num E 0 8) (num E 8 8) (num E 16 8) (num E 24 8) (num E 32 4) (num E 36 4) j = E j := by
  rw [refFilter_D]
  exact (cat_back (n := 36) (m := 4) rfl (cat_back (n := 32) (m := 4) rfl (cat_back (n := 24) (m := 8) rfl (cat_back (n := 16) (m := 8) rfl (fun j hj => (dgt_num hE 0 8 rfl j hj).trans (congrArg E (by omega))) (fun j hj => nb_num hE 16 8 j hj)) (fun j hj => nb_num hE 24 8 j hj)) (fun j hj => nb_num hE 32 4 j hj)) (fun j hj => nb_num hE 36 4 j hj))
theorem by_rdF {e : Nat → Int} (he : ∀ i, 0 ≤ e i ∧ e i < 256) : ∀ j, j < 40 → byF (rdF e) j = e j := putFilter_num he
theorem ok_rdF {e : Nat → Int} (he : ∀ i, 0 ≤ e i ∧ e i < 256) : okF (rdF e)
  | 0 => num_eight he 0 | 1 => num_eight he 8 | 2 => num_eight he 16 | 3 => num_eight he 24 | 4 => num_four he 32 | 5 => num_four he 36 
  | _ + 6 => (show 0 ≤ (0 : Int) ∧ (0 : Int) < 1 by decide)
theorem ok_zeroF : okF (fun _ => 0)
  | 0 => (show 0 ≤ (0 : Int) ∧ (0 : Int) < 18446744073709551616 by decide)
  | 1 => (show 0 ≤ (0 : Int) ∧ (0 : Int) < 18446744073709551616 by decide)
  | 2 => (show 0 ≤ (0 : Int) ∧ (0 : Int) < 18446744073709551616 by decide)
  | 3 => (show 0 ≤ (0 : Int) ∧ (0 : Int) < 18446744073709551616 by decide)
  | 4 => (show 0 ≤ (0 : Int) ∧ (0 : Int) < 4294967296 by decide)
  | 5 => (show 0 ≤ (0 : Int) ∧ (0 : Int) < 4294967296 by decide)
  | _ + 6 => (show 0 ≤ (0 : Int) ∧ (0 : Int) < 1 by decide)
theorem hd1_at {e : Nat → Int} {k : Int} (h : e 0 = k) : ∀ j, j < 1 → hd1 k j = e j := by
  intro j hj
  obtain rfl : j = 0 := by omega
  exact h.symm
theorem rq1_R {e : Nat → Int} (he : ∀ i, 0 ≤ e i ∧ e i < 256) {k : Int} {n : Nat} (h0 : e 0 = k) (h2 : 1 ≤ n) (hm : (n - 1) % 104 = 0) : ∀ j, j < n → cat (hd1 k) 1 (rowsF 104 (fun i => byA (rdA (shf (shf e 1) (i * 104))))) j = e j :=
  cat_back (n := 1) (m := n - 1) (by omega) (hd1_at h0) (fun j hj => rows_back (S := 104) (h := 1) (q := (n - 1) / 104) (by omega) (fun i _ j hj => by rw [shf_shf]; exact by_rdA (shf_lo he _) j hj) j (by omega))
theorem rq2_R {e : Nat → Int} (he : ∀ i, 0 ≤ e i ∧ e i < 256) {k : Int} {n : Nat} (h0 : e 0 = k) (h2 : 1 ≤ n) (hm : (n - 1) % 108 = 0) : ∀ j, j < n → cat (hd1 k) 1 (rowsF 108 (fun i => byT (rdT (shf (shf e 1) (i * 108))))) j = e j :=
  cat_back (n := 1) (m := n - 1) (by omega) (hd1_at h0) (fun j hj => rows_back (S := 108) (h := 1) (q := (n - 1) / 108) (by omega) (fun i _ j hj => by rw [shf_shf]; exact by_rdT (shf_lo he _) j hj) j (by omega))
theorem rq3_R {e : Nat → Int} (he : ∀ i, 0 ≤ e i ∧ e i < 256) {k : Int} {n : Nat} (h0 : e 0 = k) (h2 : 1 ≤ n) (hm : (n - 1) % 16 = 0) : ∀ j, j < n → cat (hd1 k) 1 (rowsF 16 (fun i => byU (rdU (shf (shf e 1) (i * 16))))) j = e j :=
  cat_back (n := 1) (m := n - 1) (by omega) (hd1_at h0) (fun j hj => rows_back (S := 16) (h := 1) (q := (n - 1) / 16) (by omega) (fun i _ j hj => by rw [shf_shf]; exact by_rdU (shf_lo he _) j hj) j (by omega))
theorem rq5_R {e : Nat → Int} (he : ∀ i, 0 ≤ e i ∧ e i < 256) {k : Int} (h0 : e 0 = k) : ∀ j, j < 41 → cat (hd1 k) 1 (byF (rdF (shf e 1))) j = e j :=
  cat_back (n := 1) (m := 40) rfl (hd1_at h0) (fun j hj => by_rdF (shf_lo he 1) j hj)
end Go.Proofs.Ytncampbmnbhikaa
