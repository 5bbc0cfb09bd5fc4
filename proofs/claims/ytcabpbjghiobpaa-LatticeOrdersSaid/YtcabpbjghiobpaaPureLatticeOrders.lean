/- For any three numbers: Below is an order, and Above lists just what a kind is below: no condition. -/
import Derived.Test.YtcabpbjghiobpaaPAllx6
import Derived.Test.YtcabpbjghiobpaaPd
set_option linter.unusedSimpArgs false
namespace Go.Proofs.Ytcabpbjghiobpaa.Pure
open Go.RowKit Go.Proofs.Ytcabpbjghiobpaa.PAll Go.Proofs.Ytcabpbjghiobpaa.Lat Go.Proofs.YtcabpbjghiobpaaW.PrintWords Go.Proofs.YtcabpbjghiobpaaW.PrintLast Go.Proofs.YtcabpbjghiobpaaW.PrintMore
theorem orders_loop (k : Nat) (a b : Int) (v : Bool) : moultlaw2_LatticeOrders.l0 (k + 6) b v (aboveL a) false 0 = some (belowB a b == v) := by
  by_cases h : 1 ≤ a ∧ a ≤ 6
  · have : a = 1 ∨ a = 2 ∨ a = 3 ∨ a = 4 ∨ a = 5 ∨ a = 6 := by omega
    have hb : b = 1 ∨ b = 2 ∨ b = 3 ∨ b = 4 ∨ b = 5 ∨ b = 6 ∨ ¬ (1 ≤ b ∧ b ≤ 6) := by omega
    rcases hb with rfl | rfl | rfl | rfl | rfl | rfl | hb
    all_goals first
      | (rcases this with rfl | rfl | rfl | rfl | rfl | rfl <;> simp [moultlaw2_LatticeOrders.l0, aboveL, rd, wrap64, belowB, sameB]; done)
      | skip
    have h1 : ¬ b = 1 := by omega
    have h2 : ¬ b = 2 := by omega
    have h3 : ¬ b = 3 := by omega
    have h4 : ¬ b = 4 := by omega
    have h5 : ¬ b = 5 := by omega
    have h6 : ¬ b = 6 := by omega
    have hb0 : belowB a b = false := by
      unfold belowB sameB
      rw [Bool.and_eq_false_iff, decide_eq_false_iff_not]
      exact .inl (by omega)
    rw [hb0]
    have e1 : ((1 : Int) == b) = false := by rw [beq_eq_false_iff_ne]; omega
    have e2 : ((2 : Int) == b) = false := by rw [beq_eq_false_iff_ne]; omega
    have e3 : ((3 : Int) == b) = false := by rw [beq_eq_false_iff_ne]; omega
    have e4 : ((4 : Int) == b) = false := by rw [beq_eq_false_iff_ne]; omega
    have e5 : ((5 : Int) == b) = false := by rw [beq_eq_false_iff_ne]; omega
    have e6 : ((6 : Int) == b) = false := by rw [beq_eq_false_iff_ne]; omega
    rcases this with rfl | rfl | rfl | rfl | rfl | rfl <;> simp [moultlaw2_LatticeOrders.l0, aboveL, rd, wrap64, e1, e2, e3, e4, e5, e6]
  · have : aboveL a = [] := by
      unfold aboveL
      rw [if_neg (by omega), if_neg (by omega), if_neg (by omega), if_neg (by omega), if_neg (by omega), if_neg (by omega)]
    have hb0 : belowB a b = false := by
      unfold belowB sameB
      rw [Bool.and_eq_false_iff, decide_eq_false_iff_not]
      exact .inl (by omega)
    rw [this, hb0]
    simp [moultlaw2_LatticeOrders.l0]
theorem LatticeOrders : moultlaw2_LatticeOrders.Pure := by
  intro a b c _ _ _
  refine ⟨40, ?_⟩
  unfold moultlaw2_LatticeOrders.f
  rw [shown_eq 0]
  simp only [Option.bind_some, if_true]
  rw [below_eq 30, below_eq 30]
  simp only [Option.bind_some]
  have hs : belowB a a = decide (1 ≤ a ∧ a ≤ 6) := by
    unfold belowB sameB
    rw [decide_eq_true (Int.le_refl a), Bool.and_true, decide_eq_decide]
    omega
  have hj1 : moultlaw2_LatticeOrders.j1 39 a b (belowB a b) false = some true := by
    simp only [moultlaw2_LatticeOrders.j1]
    rw [if_neg (by decide), above_eqL 28]
    simp only [Option.bind_some]
    rw [orders_loop 32]
    simp
  have hj0 : moultlaw2_LatticeOrders.j0 40 a b c (belowB a b) (belowB b c) (decide (1 ≤ a ∧ a ≤ 6)) = some true := by
    simp only [moultlaw2_LatticeOrders.j0]
    rw [below_eq 29, hs]
    simp only [Option.bind_some]
    rw [if_neg (by simp)]
    cases h1 : belowB a b with
    | false => rw [if_neg (by simp)]; rw [h1] at hj1; exact hj1
    | true =>
      rw [h1] at hj1
      rw [if_pos rfl, below_eq 29]
      simp only [Option.bind_some]
      have hab : a ≤ b ∧ sameB a b = true := by
        unfold belowB at h1
        simpa [and_comm] using h1
      have key : belowB b c = true → belowB a c = true := by
        intro h2
        unfold belowB sameB at h1 h2 ⊢
        simp only [Bool.and_eq_true, decide_eq_true_eq] at h1 h2 ⊢
        omega
      have tail : (if belowB b c = true then (lattice_Below.f 39 a c).bind fun t293 => moultlaw2_LatticeOrders.j1 39 a b true (!t293) else moultlaw2_LatticeOrders.j1 39 a b true false) = some true := by
        cases h2 : belowB b c with
        | false => rw [if_neg (by simp)]; exact hj1
        | true =>
          rw [if_pos rfl, below_eq 29]
          simp only [Option.bind_some]
          rw [key h2]
          exact hj1
      cases h2 : belowB b a with
      | false => rw [if_neg (by simp)]; exact tail
      | true =>
        have he : a = b := by
          unfold belowB at h1 h2
          simp only [Bool.and_eq_true, decide_eq_true_eq] at h1 h2
          omega
        rw [if_pos rfl, if_pos he]
        exact tail
  by_cases h : a ≥ 1
  · rw [if_pos h]
    rw [show decide (a ≤ 6) = decide (1 ≤ a ∧ a ≤ 6) from by rw [decide_eq_decide]; omega]
    exact hj0
  · rw [if_neg h]
    rw [show decide (1 ≤ a ∧ a ≤ 6) = false from by rw [decide_eq_false_iff_not]; omega] at hj0
    exact hj0
end Go.Proofs.Ytcabpbjghiobpaa.Pure
