/- ValueRights: the plain law. -/
import Derived.Test.YtnedhbnbhedgeaaDoorQValueRights
import Derived.Test.YtnedhbnbhedgeaaDoorLr
import Derived.Test.YtnedhbnbhedgeaaDoorPv
set_option linter.unusedVariables false
set_option linter.unusedSimpArgs false
namespace Go.Proofs.YtnedhbnbhedgeaaDoor.Val
open Go.RowKit Go.Proofs.YtnedhbnbhedgeaaDoor Go.Proofs.YtnedhbnbhedgeaaDoor.PAll Go.Proofs.YtnedhbnbhedgeaaDoorW.PrintWords
/-- Is a value right? -/
def right (k n : Int) (s : List UInt8) : Bool :=
  if k = 1 then decide (s = [] ∧ 0 ≤ n ∧ n ≤ 1) else if k = 2 then decide (s = [] ∧ -32768 ≤ n ∧ n ≤ 32767) else if k = 3 then decide (s = [] ∧ -2147483648 ≤ n ∧ n ≤ 2147483647)
  else if k = 4 then decide (s = []) else if k = 5 then decide (n = 0 ∧ s.length ≤ 32) else if k = 6 then decide (n = 0 ∧ s.length ≤ 1000) else false
theorem within_eq (k n : Int) (s : ByteArray) (a b : Int) : value_within.f k n s a b = some (decide (s.data.toList = [] ∧ a ≤ n ∧ n ≤ b)) := by
  unfold value_within.f
  rw [toL]
  by_cases h : s.data.toList = []
  · by_cases h2 : n ≥ a
    · rw [if_pos h, if_pos h2]; simp [h, h2]
    · rw [if_pos h, if_neg h2]; simp [h]; omega
  · rw [if_neg h]; simp [h]
theorem len_eq (s : ByteArray) : s.data.toList.length = s.size := by simp
theorem right_eq (k n : Int) (s : ByteArray) : value_Right.f k n s = some (right k n s.data.toList) := by
  unfold value_Right.f right
  simp only [within_eq, Option.bind_some, len_eq, toL]
  by_cases h1 : k = 1
  · simp [h1]
  by_cases h2 : k = 2
  · simp [h2]
  by_cases h3 : k = 3
  · simp [h3]
  by_cases h4 : k = 4
  · simp [h4]; rw [Bool.eq_iff_iff]; simp
  by_cases h5 : k = 5
  · by_cases hn : n = 0 <;> simp [h5, hn] <;> omega
  by_cases h6 : k = 6
  · by_cases hn : n = 0 <;> simp [h6, hn] <;> omega
  simp [h1, h2, h3, h4, h5, h6]
theorem ref_right_eq (k n : Int) (s : ByteArray) : moultref1_Right.f k n s = some (right k n s.data.toList) := by
  unfold moultref1_Right.f right
  have e : (s.toList == ([] : List UInt8)) = decide (s.data.toList = []) := by rw [toL, Bool.eq_iff_iff]; simp
  simp only [e, len_eq]
  by_cases h1 : k = 1
  · by_cases hn : n = 0
    · simp [h1, hn]
    · by_cases hn1 : n = 1
      · simp [h1, hn1]
      · simp [h1, hn, hn1]; intro _; omega
  by_cases h2 : k = 2
  · by_cases ha : n ≥ -32768 <;> by_cases hb : n ≤ 32767 <;> simp [h2, ha, hb] <;> omega
  by_cases h3 : k = 3
  · by_cases ha : n ≥ -2147483648 <;> by_cases hb : n ≤ 2147483647 <;> simp [h3, ha, hb] <;> omega
  by_cases h4 : k = 4
  · simp [h4]
  by_cases h5 : k = 5
  · by_cases hn : n = 0 <;> simp [h5, hn] <;> omega
  by_cases h6 : k = 6
  · by_cases hn : n = 0 <;> simp [h6, hn] <;> omega
  simp [h1, h2, h3, h4, h5, h6]
theorem rights_core (a0 a1 : Int) (a2 : ByteArray) (b : Int) : moultlaw1_ValueRights.j0L b true false a0 a1 a2 = some true := by
  rw [moultlaw1_ValueRights.j0L_eq, if_neg (by decide)]
  have h2 : ∀ x7 : Bool, ∀ c0 c1 c2, (x7 = true → right c0 c1 c2.data.toList = true) → moultlaw1_ValueRights.j2L x7 false a0 a1 a2 c0 c1 c2 = some true := by
    intro x7 c0 c1 c2 h
    rw [moultlaw1_ValueRights.j2L_eq, if_neg (by decide), right_eq, ref_right_eq, right_eq]
    simp only [Option.bind_some, beq_self_eq_true, if_true]
    cases x7
    · simp
    · simp [h rfl]
  by_cases c1 : b < 1
  · simp only [value_Zero.f, c1, if_true, Option.bind_some]
    rw [if_neg (by omega), moultlaw1_ValueRights.j1L_eq]
    simp
    exact h2 false _ _ _ (by simp)
  · by_cases c6 : b > 6
    · simp only [value_Zero.f, c1, if_false, c6, if_true, Option.bind_some]
      rw [if_pos (by omega), decide_eq_false (show ¬ b ≤ 6 by omega), moultlaw1_ValueRights.j1L_eq]
      simp
      exact h2 false _ _ _ (by simp)
    · simp only [value_Zero.f, c1, if_false, c6, Option.bind_some]
      rw [if_pos (by omega), decide_eq_true (show b ≤ 6 by omega), moultlaw1_ValueRights.j1L_eq]
      simp
      refine h2 true _ _ _ (fun _ => ?_)
      unfold right
      simp
      omega
end Go.Proofs.YtnedhbnbhedgeaaDoor.Val
namespace Go.Proofs.YtnedhbnbhedgeaaDoor.Pure
open Go.Proofs.YtnedhbnbhedgeaaDoor Go.Proofs.YtnedhbnbhedgeaaDoor.PAll Val
theorem ValueRights : PAll.moultlaw1_ValueRights.Pure := by
  intro s0 b _ _
  refine lim_some (g := fun k => moultlaw1_ValueRights.f k s0.f0 s0.f1 s0.f2 b) (show moultlaw1_ValueRights.fL s0.f0 s0.f1 s0.f2 b = some true from ?_)
  rw [moultlaw1_ValueRights.fL_eq, shown_ev]
  simp only [Option.bind_some, if_true]
  generalize decide ((s0.f2.size : Int) > 3000) = q
  cases q
  · exact rights_core s0.f0 s0.f1 s0.f2 b
  · rw [moultlaw1_ValueRights.j0L_eq, if_pos rfl]
end Go.Proofs.YtnedhbnbhedgeaaDoor.Pure
