/-
  The document's GetReply, walked: whatever the bytes.
-/
import Derived.Test.YtncampbmnbhikaaWsa
import Derived.Test.YtncampbmnbhikaaWsb
import Derived.Test.YtncampbmnbhikaaWsc
import Derived.Test.YtncampbmnbhikaaWsd
import Derived.Test.YtncampbmnbhikaaWsg
namespace Go.Proofs.Ytncampbmnbhikaa
set_option linter.unusedVariables false
set_option linter.unusedSimpArgs false
open Go.RowKit

set_option maxHeartbeats 1000000 in
theorem refGetReply_any (n : Nat) (e : Nat → Int) (he : ∀ i, 0 ≤ e i ∧ e i < 256) (hn : n ≤ 100000) (w : World) :
    Calls Try.prog 12 #[.string (strF e n)] w fun r w' => GotRp r w w' (readRp n e) := by
  have y0 := he 0
  have y1 := he 1
  unfold readRp
  by_cases c0 : n = 1 ∧ 1 ≤ e 0 ∧ e 0 ≤ 4
  · rw [if_pos c0]
    refine (refGetReply_st n e he hn w c0.1 c0.2).mono ?_
    rintro r w' ⟨rfl, hb⟩
    exact ⟨_, none, none, none, none, 0, 0, 0, 0, rfl, rfl, ⟨SsIs.nil, SsIs.nil, SsIs.nil, SsIs.nil⟩, hb⟩
  rw [if_neg c0]
  by_cases c1 : n < 2 ∨ e 0 ≠ 0
  · rw [if_pos c1]
    by_cases z : n = 0
    · exact (refGetReply_zero n e he hn w z).mono (fun r w' h => got_none h)
    by_cases z1 : n = 1
    · exact (refGetReply_one n e he hn w z1 (by omega)).mono (fun r w' h => got_none h)
    · exact (refGetReply_head n e he hn w (by omega) (by omega)).mono (fun r w' h => got_none h)
  rw [if_neg c1]
  have n2 : 2 ≤ n := by omega
  have h0 : e 0 = 0 := by omega
  by_cases c2 : e 1 < 1 ∨ 7 < e 1
  · rw [if_neg (by omega), if_neg (by omega), if_neg (by omega), if_neg (by omega), if_neg (by omega)]
    exact (refGetReply_kd n e he hn w n2 h0 c2).mono (fun r w' h => got_none h)
  rcases (by omega : e 1 = 1 ∨ e 1 = 2 ∨ e 1 = 3 ∨ e 1 = 4 ∨ e 1 = 5 ∨ e 1 = 6 ∨ e 1 = 7) with h1 | h1 | h1 | h1 | h1 | h1 | h1
  · by_cases m : (n - 2) % 8 = 0
    · rw [if_pos (by omega)]
      refine (refGetReply_k1 ((n - 2) / 8) n e he hn w (by omega) h0 h1).mono ?_
      rintro r w' ⟨A', c', rfl, _, h2, hb⟩
      exact ⟨_, A', none, none, none, c', 0, 0, 0, rfl, by simp only [Option.getD_some, Option.isSome_some, h1]; rfl, ⟨h2, SsIs.nil, SsIs.nil, SsIs.nil⟩, hb⟩
    · rw [if_neg (by omega), if_neg (by omega), if_neg (by omega), if_neg (by omega), if_neg (by omega)]
      exact (refGetReply_n1 n e he hn w n2 m h0 h1).mono (fun r w' h => got_none h)
  · by_cases m : (n - 2) % 8 = 0
    · rw [if_pos (by omega)]
      refine (refGetReply_k2 ((n - 2) / 8) n e he hn w (by omega) h0 h1).mono ?_
      rintro r w' ⟨A', c', rfl, _, h2, hb⟩
      exact ⟨_, A', none, none, none, c', 0, 0, 0, rfl, by simp only [Option.getD_some, Option.isSome_some, h1]; rfl, ⟨h2, SsIs.nil, SsIs.nil, SsIs.nil⟩, hb⟩
    · rw [if_neg (by omega), if_neg (by omega), if_neg (by omega), if_neg (by omega), if_neg (by omega)]
      exact (refGetReply_n2 n e he hn w n2 m h0 h1).mono (fun r w' h => got_none h)
  · by_cases m : (n - 2) % 104 = 0
    · rw [if_neg (by omega), if_pos (by omega)]
      refine (refGetReply_k3 ((n - 2) / 104) n e he hn w (by omega) h0 h1).mono ?_
      rintro r w' ⟨A', c', rfl, _, h2, hb⟩
      exact ⟨_, none, A', none, none, 0, c', 0, 0, rfl, by simp only [Option.getD_some, Option.isSome_some, h1]; rfl, ⟨SsIs.nil, h2, SsIs.nil, SsIs.nil⟩, hb⟩
    · rw [if_neg (by omega), if_neg (by omega), if_neg (by omega), if_neg (by omega), if_neg (by omega)]
      exact (refGetReply_n3 n e he hn w n2 m h0 h1).mono (fun r w' h => got_none h)
  · by_cases m : (n - 2) % 108 = 0
    · rw [if_neg (by omega), if_neg (by omega), if_pos (by omega)]
      refine (refGetReply_k4 ((n - 2) / 108) n e he hn w (by omega) h0 h1).mono ?_
      rintro r w' ⟨A', c', rfl, _, h2, hb⟩
      exact ⟨_, none, none, A', none, 0, 0, c', 0, rfl, by simp only [Option.getD_some, Option.isSome_some, h1]; rfl, ⟨SsIs.nil, SsIs.nil, h2, SsIs.nil⟩, hb⟩
    · rw [if_neg (by omega), if_neg (by omega), if_neg (by omega), if_neg (by omega), if_neg (by omega)]
      exact (refGetReply_n4 n e he hn w n2 m h0 h1).mono (fun r w' h => got_none h)
  · by_cases m : (n - 2) % 108 = 0
    · rw [if_neg (by omega), if_neg (by omega), if_pos (by omega)]
      refine (refGetReply_k5 ((n - 2) / 108) n e he hn w (by omega) h0 h1).mono ?_
      rintro r w' ⟨A', c', rfl, _, h2, hb⟩
      exact ⟨_, none, none, A', none, 0, 0, c', 0, rfl, by simp only [Option.getD_some, Option.isSome_some, h1]; rfl, ⟨SsIs.nil, SsIs.nil, h2, SsIs.nil⟩, hb⟩
    · rw [if_neg (by omega), if_neg (by omega), if_neg (by omega), if_neg (by omega), if_neg (by omega)]
      exact (refGetReply_n5 n e he hn w n2 m h0 h1).mono (fun r w' h => got_none h)
  · by_cases m : (n - 2) % 72 = 0
    · rw [if_neg (by omega), if_neg (by omega), if_neg (by omega), if_pos (by omega)]
      refine (refGetReply_k6 ((n - 2) / 72) n e he hn w (by omega) h0 h1).mono ?_
      rintro r w' ⟨A', c', rfl, _, h2, hb⟩
      exact ⟨_, none, none, none, A', 0, 0, 0, c', rfl, by simp only [Option.getD_some, Option.isSome_some, h1]; rfl, ⟨SsIs.nil, SsIs.nil, SsIs.nil, h2⟩, hb⟩
    · rw [if_neg (by omega), if_neg (by omega), if_neg (by omega), if_neg (by omega), if_neg (by omega)]
      exact (refGetReply_n6 n e he hn w n2 m h0 h1).mono (fun r w' h => got_none h)
  · rw [if_neg (by omega), if_neg (by omega), if_neg (by omega), if_neg (by omega)]
    by_cases m : n = 6
    · rw [if_pos ⟨h1, m⟩]
      refine (refGetReply_k7 n e he hn w m h0 h1).mono ?_
      rintro r w' ⟨rfl, hb⟩
      exact ⟨_, none, none, none, none, 0, 0, 0, 0, rfl, rfl, ⟨SsIs.nil, SsIs.nil, SsIs.nil, SsIs.nil⟩, hb⟩
    · rw [if_neg (by omega)]
      exact (refGetReply_n7 n e he hn w n2 h0 h1 m).mono (fun r w' h => got_none h)
end Go.Proofs.Ytncampbmnbhikaa

