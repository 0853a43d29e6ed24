/-
  balance.more, less on a block that is known whole.
-/
import Derived.Test.YtpbnakoimlmhnaaBalB
import Derived.Test.YtpbnakoimlmhnaaBalC
import Derived.Test.YtpbnakoimlmhnaaBalD
namespace Go.Proofs.Ytpbnakoimlmhnaa
set_option linter.unusedVariables false
set_option linter.unusedSimpArgs false
open Go.RowKit

theorem moreB_debitsPending (a b n1 n2 : Int) (ha : Wd a) (hb : Wd b) (hn1 : Wd n1) (hn2 : Wd n2) (g k : Nat) (t : TypeId) (cs : Array Value) (w : World) (hg : Blk w g t cs) (c0 : cs[k + 2]? = some (.int .u64 a)) (c1 : cs[k + 3]? = some (.int .u64 b)) :
    Calls Try.prog 39 #[.func (.func 73) #[] #[], .pointer (some ⟨g, k, none⟩), .agg #[.int .u64 n1, .int .u64 n2]] w fun r w' => r = .returned (.bool (addB a b n1 n2)) ∧ Blk w' g t (if addB a b n1 n2 then (cs.setIfInBounds (k + 2) (.int .u64 (addH a b n1 n2))).setIfInBounds (k + 3) (.int .u64 (addL a b n1 n2)) else cs) ∧ (∀ b' t' cs', b' ≠ g → Blk w b' t' cs' → Blk w' b' t' cs') ∧ (∀ B0, B0 ≤ g → Below B0 w w') := by
  refine (more_debitsPending a b n1 n2 ha hb hn1 hn2 g k w ((hg.cell _).trans c0) ((hg.cell _).trans c1) (hg.frozen _) (hg.frozen _)).mono ?_
  rintro e w' ⟨rfl, W2, hb2, rfl⟩
  have h2 := hg.kept hb2
  cases addB a b n1 n2
  · exact ⟨rfl, h2, fun b' t' cs' hne hb' => hb'.kept hb2, fun B0 hB => hb2.mono (Nat.le_trans hB (Nat.le_of_lt hg.lt))⟩
  · refine ⟨rfl, (h2.set_ _ _).set_ _ _, fun b' t' cs' hne hb' => ((hb'.kept hb2).far hne _).far hne _, fun B0 hB => ?_⟩
    exact ((hb2.mono (Nat.le_trans hB (Nat.le_of_lt hg.lt))).setCell hB _).setCell hB _
theorem moreB_debitsPosted (a b n1 n2 : Int) (ha : Wd a) (hb : Wd b) (hn1 : Wd n1) (hn2 : Wd n2) (g k : Nat) (t : TypeId) (cs : Array Value) (w : World) (hg : Blk w g t cs) (c0 : cs[k + 4]? = some (.int .u64 a)) (c1 : cs[k + 5]? = some (.int .u64 b)) :
    Calls Try.prog 39 #[.func (.func 74) #[] #[], .pointer (some ⟨g, k, none⟩), .agg #[.int .u64 n1, .int .u64 n2]] w fun r w' => r = .returned (.bool (addB a b n1 n2)) ∧ Blk w' g t (if addB a b n1 n2 then (cs.setIfInBounds (k + 4) (.int .u64 (addH a b n1 n2))).setIfInBounds (k + 5) (.int .u64 (addL a b n1 n2)) else cs) ∧ (∀ b' t' cs', b' ≠ g → Blk w b' t' cs' → Blk w' b' t' cs') ∧ (∀ B0, B0 ≤ g → Below B0 w w') := by
  refine (more_debitsPosted a b n1 n2 ha hb hn1 hn2 g k w ((hg.cell _).trans c0) ((hg.cell _).trans c1) (hg.frozen _) (hg.frozen _)).mono ?_
  rintro e w' ⟨rfl, W2, hb2, rfl⟩
  have h2 := hg.kept hb2
  cases addB a b n1 n2
  · exact ⟨rfl, h2, fun b' t' cs' hne hb' => hb'.kept hb2, fun B0 hB => hb2.mono (Nat.le_trans hB (Nat.le_of_lt hg.lt))⟩
  · refine ⟨rfl, (h2.set_ _ _).set_ _ _, fun b' t' cs' hne hb' => ((hb'.kept hb2).far hne _).far hne _, fun B0 hB => ?_⟩
    exact ((hb2.mono (Nat.le_trans hB (Nat.le_of_lt hg.lt))).setCell hB _).setCell hB _
theorem moreB_creditsPending (a b n1 n2 : Int) (ha : Wd a) (hb : Wd b) (hn1 : Wd n1) (hn2 : Wd n2) (g k : Nat) (t : TypeId) (cs : Array Value) (w : World) (hg : Blk w g t cs) (c0 : cs[k + 6]? = some (.int .u64 a)) (c1 : cs[k + 7]? = some (.int .u64 b)) :
    Calls Try.prog 39 #[.func (.func 76) #[] #[], .pointer (some ⟨g, k, none⟩), .agg #[.int .u64 n1, .int .u64 n2]] w fun r w' => r = .returned (.bool (addB a b n1 n2)) ∧ Blk w' g t (if addB a b n1 n2 then (cs.setIfInBounds (k + 6) (.int .u64 (addH a b n1 n2))).setIfInBounds (k + 7) (.int .u64 (addL a b n1 n2)) else cs) ∧ (∀ b' t' cs', b' ≠ g → Blk w b' t' cs' → Blk w' b' t' cs') ∧ (∀ B0, B0 ≤ g → Below B0 w w') := by
  refine (more_creditsPending a b n1 n2 ha hb hn1 hn2 g k w ((hg.cell _).trans c0) ((hg.cell _).trans c1) (hg.frozen _) (hg.frozen _)).mono ?_
  rintro e w' ⟨rfl, W2, hb2, rfl⟩
  have h2 := hg.kept hb2
  cases addB a b n1 n2
  · exact ⟨rfl, h2, fun b' t' cs' hne hb' => hb'.kept hb2, fun B0 hB => hb2.mono (Nat.le_trans hB (Nat.le_of_lt hg.lt))⟩
  · refine ⟨rfl, (h2.set_ _ _).set_ _ _, fun b' t' cs' hne hb' => ((hb'.kept hb2).far hne _).far hne _, fun B0 hB => ?_⟩
    exact ((hb2.mono (Nat.le_trans hB (Nat.le_of_lt hg.lt))).setCell hB _).setCell hB _
theorem moreB_creditsPosted (a b n1 n2 : Int) (ha : Wd a) (hb : Wd b) (hn1 : Wd n1) (hn2 : Wd n2) (g k : Nat) (t : TypeId) (cs : Array Value) (w : World) (hg : Blk w g t cs) (c0 : cs[k + 8]? = some (.int .u64 a)) (c1 : cs[k + 9]? = some (.int .u64 b)) :
    Calls Try.prog 39 #[.func (.func 75) #[] #[], .pointer (some ⟨g, k, none⟩), .agg #[.int .u64 n1, .int .u64 n2]] w fun r w' => r = .returned (.bool (addB a b n1 n2)) ∧ Blk w' g t (if addB a b n1 n2 then (cs.setIfInBounds (k + 8) (.int .u64 (addH a b n1 n2))).setIfInBounds (k + 9) (.int .u64 (addL a b n1 n2)) else cs) ∧ (∀ b' t' cs', b' ≠ g → Blk w b' t' cs' → Blk w' b' t' cs') ∧ (∀ B0, B0 ≤ g → Below B0 w w') := by
  refine (more_creditsPosted a b n1 n2 ha hb hn1 hn2 g k w ((hg.cell _).trans c0) ((hg.cell _).trans c1) (hg.frozen _) (hg.frozen _)).mono ?_
  rintro e w' ⟨rfl, W2, hb2, rfl⟩
  have h2 := hg.kept hb2
  cases addB a b n1 n2
  · exact ⟨rfl, h2, fun b' t' cs' hne hb' => hb'.kept hb2, fun B0 hB => hb2.mono (Nat.le_trans hB (Nat.le_of_lt hg.lt))⟩
  · refine ⟨rfl, (h2.set_ _ _).set_ _ _, fun b' t' cs' hne hb' => ((hb'.kept hb2).far hne _).far hne _, fun B0 hB => ?_⟩
    exact ((hb2.mono (Nat.le_trans hB (Nat.le_of_lt hg.lt))).setCell hB _).setCell hB _
theorem lessB_debitsPending (a b n1 n2 : Int) (ha : Wd a) (hb : Wd b) (hn1 : Wd n1) (hn2 : Wd n2) (g k : Nat) (t : TypeId) (cs : Array Value) (w : World) (hg : Blk w g t cs) (c0 : cs[k + 2]? = some (.int .u64 a)) (c1 : cs[k + 3]? = some (.int .u64 b)) :
    Calls Try.prog 47 #[.func (.func 73) #[] #[], .pointer (some ⟨g, k, none⟩), .agg #[.int .u64 n1, .int .u64 n2]] w fun r w' => r = .returned (.bool (subB a b n1 n2)) ∧ Blk w' g t (if subB a b n1 n2 then (cs.setIfInBounds (k + 2) (.int .u64 (subH a b n1 n2))).setIfInBounds (k + 3) (.int .u64 (subL a b n1 n2)) else cs) ∧ (∀ b' t' cs', b' ≠ g → Blk w b' t' cs' → Blk w' b' t' cs') ∧ (∀ B0, B0 ≤ g → Below B0 w w') := by
  refine (less_debitsPending a b n1 n2 ha hb hn1 hn2 g k w ((hg.cell _).trans c0) ((hg.cell _).trans c1) (hg.frozen _) (hg.frozen _)).mono ?_
  rintro e w' ⟨rfl, W2, hb2, rfl⟩
  have h2 := hg.kept hb2
  cases subB a b n1 n2
  · exact ⟨rfl, h2, fun b' t' cs' hne hb' => hb'.kept hb2, fun B0 hB => hb2.mono (Nat.le_trans hB (Nat.le_of_lt hg.lt))⟩
  · refine ⟨rfl, (h2.set_ _ _).set_ _ _, fun b' t' cs' hne hb' => ((hb'.kept hb2).far hne _).far hne _, fun B0 hB => ?_⟩
    exact ((hb2.mono (Nat.le_trans hB (Nat.le_of_lt hg.lt))).setCell hB _).setCell hB _
theorem lessB_creditsPending (a b n1 n2 : Int) (ha : Wd a) (hb : Wd b) (hn1 : Wd n1) (hn2 : Wd n2) (g k : Nat) (t : TypeId) (cs : Array Value) (w : World) (hg : Blk w g t cs) (c0 : cs[k + 6]? = some (.int .u64 a)) (c1 : cs[k + 7]? = some (.int .u64 b)) :
    Calls Try.prog 47 #[.func (.func 76) #[] #[], .pointer (some ⟨g, k, none⟩), .agg #[.int .u64 n1, .int .u64 n2]] w fun r w' => r = .returned (.bool (subB a b n1 n2)) ∧ Blk w' g t (if subB a b n1 n2 then (cs.setIfInBounds (k + 6) (.int .u64 (subH a b n1 n2))).setIfInBounds (k + 7) (.int .u64 (subL a b n1 n2)) else cs) ∧ (∀ b' t' cs', b' ≠ g → Blk w b' t' cs' → Blk w' b' t' cs') ∧ (∀ B0, B0 ≤ g → Below B0 w w') := by
  refine (less_creditsPending a b n1 n2 ha hb hn1 hn2 g k w ((hg.cell _).trans c0) ((hg.cell _).trans c1) (hg.frozen _) (hg.frozen _)).mono ?_
  rintro e w' ⟨rfl, W2, hb2, rfl⟩
  have h2 := hg.kept hb2
  cases subB a b n1 n2
  · exact ⟨rfl, h2, fun b' t' cs' hne hb' => hb'.kept hb2, fun B0 hB => hb2.mono (Nat.le_trans hB (Nat.le_of_lt hg.lt))⟩
  · refine ⟨rfl, (h2.set_ _ _).set_ _ _, fun b' t' cs' hne hb' => ((hb'.kept hb2).far hne _).far hne _, fun B0 hB => ?_⟩
    exact ((hb2.mono (Nat.le_trans hB (Nat.le_of_lt hg.lt))).setCell hB _).setCell hB _
end Go.Proofs.Ytpbnakoimlmhnaa
