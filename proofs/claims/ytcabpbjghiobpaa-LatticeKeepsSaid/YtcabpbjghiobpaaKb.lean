/- The plain laws of the lattice: what the program's functions answer, in closed form. -/
import Derived.Test.YtcabpbjghiobpaaPAllx2
import Derived.Test.YtcabpbjghiobpaaPAllx3
import Derived.Test.YtcabpbjghiobpaaPAllx4
import Derived.Test.YtcabpbjghiobpaaPAllx5
import Derived.Test.YtcabpbjghiobpaaPAllx6
import Derived.Test.YtcabpbjghiobpaaPAllx7
import Derived.Test.YtcabpbjghiobpaaPAllx8
namespace Go.Proofs.Ytcabpbjghiobpaa.Lat
open Go.RowKit Go.Proofs.Ytcabpbjghiobpaa.PAll Go.Proofs.Ytcabpbjghiobpaa Go.Proofs.YtcabpbjghiobpaaW.PrintWords Go.Proofs.YtcabpbjghiobpaaW.PrintLast Go.Proofs.YtcabpbjghiobpaaW.PrintMore

theorem in4 {x : Int} (h : 1 ≤ x ∧ x ≤ 4) : x = 1 ∨ x = 2 ∨ x = 3 ∨ x = 4 := by omega
theorem in2 {x : Int} (h : 5 ≤ x ∧ x ≤ 6) : x = 5 ∨ x = 6 := by omega
def sameB (a b : Int) : Bool := decide ((1 ≤ a ∧ a ≤ 4 ∧ 1 ≤ b ∧ b ≤ 4) ∨ (5 ≤ a ∧ a ≤ 6 ∧ 5 ≤ b ∧ b ≤ 6))
def belowB (a b : Int) : Bool := sameB a b && decide (a ≤ b)

theorem idx4 (k : Nat) (x : Int) : slices_Index_int_int.f (k + 6) [1, 2, 3, 4] x = some (if 1 ≤ x ∧ x ≤ 4 then x - 1 else -1) := by
  by_cases h : 1 ≤ x ∧ x ≤ 4
  · rw [if_pos h]
    rcases in4 h with rfl | rfl | rfl | rfl <;> simp [slices_Index_int_int.f, slices_Index_int_int.l0, rd, wrap64]
  · rw [if_neg h]
    have h1 : ¬ x = 1 := by omega
    have h2 : ¬ x = 2 := by omega
    have h3 : ¬ x = 3 := by omega
    have h4 : ¬ x = 4 := by omega
    simp [slices_Index_int_int.f, slices_Index_int_int.l0, rd, wrap64, h1, h2, h3, h4]
theorem idx2 (k : Nat) (x : Int) : slices_Index_int_int.f (k + 4) [5, 6] x = some (if 5 ≤ x ∧ x ≤ 6 then x - 5 else -1) := by
  by_cases h : 5 ≤ x ∧ x ≤ 6
  · rw [if_pos h]
    rcases in2 h with rfl | rfl <;> simp [slices_Index_int_int.f, slices_Index_int_int.l0, rd, wrap64]
  · rw [if_neg h]
    have h1 : ¬ x = 5 := by omega
    have h2 : ¬ x = 6 := by omega
    simp [slices_Index_int_int.f, slices_Index_int_int.l0, rd, wrap64, h1, h2]
theorem idx0 (k : Nat) (x : Int) : slices_Index_int_int.f (k + 1) [] x = some (-1) := by
  simp [slices_Index_int_int.f, slices_Index_int_int.l0]

def findP (x : Int) : List Int × Int := if 1 ≤ x ∧ x ≤ 4 then ([1, 2, 3, 4], x - 1) else if 5 ≤ x ∧ x ≤ 6 then ([5, 6], x - 5) else ([], -1)
theorem find_eq (k : Nat) (x : Int) : lattice_lattice_int_find.f (k + 10) [[1, 2, 3, 4], [5, 6]] x = some (findP x) := by
  unfold findP
  simp only [lattice_lattice_int_find.f, lattice_lattice_int_find.l0]
  simp [rd_L1, wrap64]
  rw [show k + 9 = (k + 3) + 6 from rfl, show k + 8 = (k + 4) + 4 from rfl, idx4, idx2]
  by_cases h : 1 ≤ x ∧ x ≤ 4
  · simp [h]
  · by_cases h2 : 5 ≤ x ∧ x ≤ 6
    · simp [h, h2]
    · simp [h, h2]
theorem both_eq (k : Nat) (a b : Int) : ∃ c i j, lattice_lattice_int_both.f (k + 10) [[1, 2, 3, 4], [5, 6]] a b = some (c, i, j, sameB a b) ∧ (sameB a b = true → (c = [1, 2, 3, 4] ∧ i = a - 1 ∧ j = b - 1 ∧ 1 ≤ a ∧ a ≤ 4 ∧ 1 ≤ b ∧ b ≤ 4) ∨ (c = [5, 6] ∧ i = a - 5 ∧ j = b - 5 ∧ 5 ≤ a ∧ a ≤ 6 ∧ 5 ≤ b ∧ b ≤ 6)) := by
  unfold lattice_lattice_int_both.f
  rw [find_eq]
  unfold findP
  by_cases h : 1 ≤ a ∧ a ≤ 4
  · rw [if_pos h]
    simp only [Option.bind_some]
    rw [show k + 10 = (k + 4) + 6 from rfl, idx4]
    simp only [Option.bind_some]
    rw [if_pos (by omega)]
    refine ⟨_, _, if 1 ≤ b ∧ b ≤ 4 then b - 1 else -1, ?_, fun hs => .inl ⟨rfl, rfl, ?_⟩⟩
    · congr 4
      unfold sameB
      rw [decide_eq_decide]
      split <;> omega
    · skip
      unfold sameB at hs
      have := of_decide_eq_true hs
      rw [if_pos (by omega)]
      omega
  · rw [if_neg h]
    by_cases h2 : 5 ≤ a ∧ a ≤ 6
    · rw [if_pos h2]
      simp only [Option.bind_some]
      rw [show k + 10 = (k + 6) + 4 from rfl, idx2]
      simp only [Option.bind_some]
      rw [if_pos (by omega)]
      refine ⟨_, _, if 5 ≤ b ∧ b ≤ 6 then b - 5 else -1, ?_, fun hs => .inr ⟨rfl, rfl, ?_⟩⟩
      · congr 4
        unfold sameB
        rw [decide_eq_decide]
        split <;> omega
      · skip
        unfold sameB at hs
        have := of_decide_eq_true hs
        rw [if_pos (by omega)]
        omega
    · rw [if_neg h2]
      simp only [Option.bind_some]
      rw [show k + 10 = (k + 9) + 1 from rfl, idx0]
      simp only [Option.bind_some]
      rw [if_neg (by omega)]
      have hs : sameB a b = false := by unfold sameB; rw [decide_eq_false_iff_not]; omega
      refine ⟨[], -1, -1, ?_, fun h => ?_⟩
      · rw [hs]
      · rw [hs] at h; cases h
theorem below_eq (k : Nat) (a b : Int) : lattice_Below.f (k + 10) a b = some (belowB a b) := by
  unfold lattice_Below.f lattice_kinds.f
  obtain ⟨c, i, j, h, hs⟩ := both_eq k a b
  simp only [Option.bind_some]
  rw [h]
  simp only [Option.bind_some]
  unfold belowB
  cases e : sameB a b with
  | false => simp
  | true =>
    simp only [if_true, Bool.true_and]
    rcases hs e with ⟨rfl, rfl, rfl, _⟩ | ⟨rfl, rfl, rfl, _⟩ <;> (congr 1; rw [decide_eq_decide]; omega)
theorem above_eq (k : Nat) (a : Int) : lattice_Above.f (k + 10) a = some (if a = 1 then [1, 2, 3, 4] else if a = 2 then [2, 3, 4] else if a = 3 then [3, 4] else if a = 4 then [4] else if a = 5 then [5, 6] else if a = 6 then [6] else []) := by
  unfold lattice_Above.f lattice_kinds.f
  simp only [Option.bind_some]
  rw [find_eq]
  unfold findP
  by_cases h : 1 ≤ a ∧ a ≤ 4
  · rcases in4 h with rfl | rfl | rfl | rfl <;> simp [slices_Clone_int_int.f]
  · by_cases h2 : 5 ≤ a ∧ a ≤ 6
    · rcases in2 h2 with rfl | rfl <;> simp [slices_Clone_int_int.f]
    · rw [if_neg h, if_neg h2, if_neg (by omega), if_neg (by omega), if_neg (by omega), if_neg (by omega), if_neg (by omega), if_neg (by omega)]
      simp
theorem mx_eq (a b : Int) : mx a b = max a b := by unfold mx; omega
theorem mn_eq (a b : Int) : mn a b = min a b := by unfold mn; omega
theorem join_eq (k : Nat) (a b : Int) : lattice_Join.f (k + 10) a b = some (if sameB a b = true then (max a b, true) else (0, false)) := by
  unfold lattice_Join.f lattice_kinds.f
  obtain ⟨c, i, j, h, hs⟩ := both_eq k a b
  simp only [Option.bind_some]
  rw [h]
  simp only [Option.bind_some]
  cases e : sameB a b with
  | false => simp
  | true =>
    simp only [if_true]
    rcases hs e with ⟨rfl, rfl, rfl, h1, h2, h3, h4⟩ | ⟨rfl, rfl, rfl, h1, h2, h3, h4⟩
    · rcases in4 ⟨h1, h2⟩ with rfl | rfl | rfl | rfl <;> rcases in4 ⟨h3, h4⟩ with rfl | rfl | rfl | rfl <;> rfl
    · rcases in2 ⟨h1, h2⟩ with rfl | rfl <;> rcases in2 ⟨h3, h4⟩ with rfl | rfl <;> rfl
theorem meet_eq (k : Nat) (a b : Int) : lattice_Meet.f (k + 10) a b = some (if sameB a b = true then (min a b, true) else (0, false)) := by
  unfold lattice_Meet.f lattice_kinds.f
  obtain ⟨c, i, j, h, hs⟩ := both_eq k a b
  simp only [Option.bind_some]
  rw [h]
  simp only [Option.bind_some]
  cases e : sameB a b with
  | false => simp
  | true =>
    simp only [if_true]
    rcases hs e with ⟨rfl, rfl, rfl, h1, h2, h3, h4⟩ | ⟨rfl, rfl, rfl, h1, h2, h3, h4⟩
    · rcases in4 ⟨h1, h2⟩ with rfl | rfl | rfl | rfl <;> rcases in4 ⟨h3, h4⟩ with rfl | rfl | rfl | rfl <;> rfl
    · rcases in2 ⟨h1, h2⟩ with rfl | rfl <;> rcases in2 ⟨h3, h4⟩ with rfl | rfl <;> rfl
end Go.Proofs.Ytcabpbjghiobpaa.Lat
