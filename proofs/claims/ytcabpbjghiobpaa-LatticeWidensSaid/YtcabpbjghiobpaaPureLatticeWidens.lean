/- For any value and any two kinds: a value widened twice is as widened at once, and narrowed again it is what it was: no condition but the statement's own. -/
import Derived.Test.YtcabpbjghiobpaaQLatticeWidens
import Derived.Test.YtcabpbjghiobpaaPd
set_option linter.unusedSimpArgs false
namespace Go.Proofs.Ytcabpbjghiobpaa.Pure
open Go.RowKit Go.Proofs.Ytcabpbjghiobpaa.PAll Go.Proofs.Ytcabpbjghiobpaa.Lat Go.Proofs.YtcabpbjghiobpaaW.PrintWords Go.Proofs.YtcabpbjghiobpaaW.PrintLast Go.Proofs.YtcabpbjghiobpaaW.PrintMore
theorem LatticeWidens : moultlaw2_LatticeWidens.Pure := by
  intro v a b _ _ _
  obtain ⟨c, n, s⟩ := v
  refine ⟨40, ?_⟩
  unfold moultlaw2_LatticeWidens.f
  rw [shown_eq 0]
  simp only [Option.bind_some, if_true]
  simp only [moultlaw2_LatticeWidens.j0]
  by_cases hl : (s.size : Int) > 3000
  · rw [decide_eq_true hl, if_pos rfl]
  rw [decide_eq_false hl, if_neg (by simp), widen_eq 29]
  simp only [Option.bind_some]
  rcases takeR_cases c n s a (belowB c a) with ⟨e, h1, h2, h3, h4⟩ | e | e | ⟨e, _, _⟩
  · rw [e]
    simp only [if_true]
    rw [narrow_eq 29, widen_eq 29, widen_eq 29]
    simp only [Option.bind_some]
    rw [takeR_ok h4 (kind_of_right h1) h3 h1]
    simp only [beq_self_eq_true, Bool.not_true, Bool.or_self, Bool.false_eq_true, if_false, if_true]
    rw [rright_eq, h4]
    simp only [Option.bind_some, if_true]
    rcases takeR_cases a n s b (belowB a b) with ⟨e2, g1, g2, g3, g4⟩ | e2 | e2 | ⟨e2, _, _⟩
    · rw [e2, takeR_ok h1 g2 (below_trans h3 g3) g4]
      simp
    · rw [e2]; simp
    · rw [e2]; simp
    · rw [e2]; simp
  · rw [e]; simp
  · rw [e]; simp
  · rw [e]; simp
end Go.Proofs.Ytcabpbjghiobpaa.Pure
