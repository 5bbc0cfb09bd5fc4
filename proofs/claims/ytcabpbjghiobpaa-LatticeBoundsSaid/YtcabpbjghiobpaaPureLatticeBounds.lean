/- For any three numbers: a join is above both and below all that is above both; a meet the other way round: no condition. -/
import Derived.Test.YtcabpbjghiobpaaPAllx7
import Derived.Test.YtcabpbjghiobpaaPd
set_option linter.unusedSimpArgs false
namespace Go.Proofs.Ytcabpbjghiobpaa.Pure
open Go.RowKit Go.Proofs.Ytcabpbjghiobpaa.PAll Go.Proofs.Ytcabpbjghiobpaa.Lat Go.Proofs.YtcabpbjghiobpaaW.PrintWords Go.Proofs.YtcabpbjghiobpaaW.PrintLast Go.Proofs.YtcabpbjghiobpaaW.PrintMore
theorem LatticeBounds : moultlaw2_LatticeBounds.Pure := by
  intro a b c _ _ _
  refine ⟨40, ?_⟩
  unfold moultlaw2_LatticeBounds.f
  rw [shown_eq 0]
  simp only [Option.bind_some, if_true]
  rw [join_eq 30, meet_eq 30]
  simp only [Option.bind_some]
  cases hs : sameB a b with
  | false =>
    simp only [Bool.false_eq_true, if_false, bne_self_eq_false, if_true]
    rw [below_eq 30, below_eq 30]
    simp only [Option.bind_some]
    rw [below_eq 30, below_eq 30]
    simp only [Option.bind_some]
    have h1 := below_apart hs c
    have h2 := below_apart' hs c
    cases e1 : belowB a c <;> cases e2 : belowB b c <;> cases e3 : belowB c a <;> cases e4 : belowB c b <;> simp [e1, e2, e3, e4] at h1 h2 ⊢
  | true =>
    have hs' := hs
    unfold sameB at hs'
    have hq := of_decide_eq_true hs'
    have b1 : belowB a (max a b) = true := by
      unfold belowB sameB
      simp only [Bool.and_eq_true, decide_eq_true_eq]
      omega
    have b2 : belowB b (max a b) = true := by
      unfold belowB sameB
      simp only [Bool.and_eq_true, decide_eq_true_eq]
      omega
    have b3 : belowB (min a b) a = true := by
      unfold belowB sameB
      simp only [Bool.and_eq_true, decide_eq_true_eq]
      omega
    have b4 : belowB (min a b) b = true := by
      unfold belowB sameB
      simp only [Bool.and_eq_true, decide_eq_true_eq]
      omega
    have u : (belowB a c && belowB b c) = belowB (max a b) c := by
      rw [Bool.eq_iff_iff]
      unfold belowB sameB
      simp only [Bool.and_eq_true, decide_eq_true_eq]
      omega
    have d : (belowB c a && belowB c b) = belowB c (min a b) := by
      rw [Bool.eq_iff_iff]
      unfold belowB sameB
      simp only [Bool.and_eq_true, decide_eq_true_eq]
      omega
    simp only [if_true, bne_self_eq_false, Bool.false_eq_true, if_false]
    rw [below_eq 30, b1]
    simp only [Option.bind_some, if_true]
    rw [below_eq 30, b2]
    simp only [Option.bind_some, if_true]
    rw [below_eq 30, b3]
    simp only [Option.bind_some, if_true]
    rw [below_eq 30, b4]
    simp only [Option.bind_some, Bool.not_true]
    simp only [moultlaw2_LatticeBounds.j0, Bool.false_eq_true, if_false]
    rw [below_eq 29]
    simp only [Option.bind_some]
    have fin : ∀ x : Bool, x = belowB (max a b) c → moultlaw2_LatticeBounds.j1 39 a b c (max a b) (min a b) x = some true := by
      intro x hx
      simp only [moultlaw2_LatticeBounds.j1]
      rw [below_eq 28]
      simp only [Option.bind_some]
      rw [below_eq 28, below_eq 28]
      simp only [Option.bind_some]
      rw [below_eq 28]
      simp only [Option.bind_some]
      rw [hx, ← d]
      cases belowB c a <;> cases belowB c b <;> simp
    cases e1 : belowB a c with
    | false =>
      rw [if_neg (by simp)]
      exact fin _ (by rw [← u, e1]; rfl)
    | true =>
      rw [if_pos rfl, below_eq 29]
      simp only [Option.bind_some]
      exact fin _ (by rw [← u, e1]; rfl)
end Go.Proofs.Ytcabpbjghiobpaa.Pure
