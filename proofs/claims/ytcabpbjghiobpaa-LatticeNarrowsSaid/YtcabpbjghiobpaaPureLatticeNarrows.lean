/- For any value and any kind: a value that is narrowed and widened again is what it was, and it is refused just where it does not fit: no condition but the statement's own. -/
import Derived.Test.YtcabpbjghiobpaaQLatticeNarrows
import Derived.Test.YtcabpbjghiobpaaPd
set_option linter.unusedSimpArgs false
namespace Go.Proofs.Ytcabpbjghiobpaa.Pure
open Go.RowKit Go.Proofs.Ytcabpbjghiobpaa.PAll Go.Proofs.Ytcabpbjghiobpaa.Lat Go.Proofs.YtcabpbjghiobpaaW.PrintWords Go.Proofs.YtcabpbjghiobpaaW.PrintLast Go.Proofs.YtcabpbjghiobpaaW.PrintMore
theorem LatticeNarrows : moultlaw2_LatticeNarrows.Pure := by
  intro v q _ _
  obtain ⟨c, n, s⟩ := v
  refine ⟨40, ?_⟩
  unfold moultlaw2_LatticeNarrows.f
  rw [shown_eq 0]
  simp only [Option.bind_some, if_true]
  simp only [moultlaw2_LatticeNarrows.j0]
  by_cases hl : (s.size : Int) > 3000
  · rw [decide_eq_true hl, if_pos rfl]
  rw [decide_eq_false hl, if_neg (by simp), narrow_eq 29]
  simp only [Option.bind_some]
  rcases takeR_cases c n s q (belowB q c) with ⟨e, h1, h2, h3, h4⟩ | e | e | ⟨e, h3, h4⟩
  · rw [e]
    rw [if_neg (by simp), if_pos rfl, widen_eq 29]
    simp only [Option.bind_some]
    rw [takeR_ok h4 (kind_of_right h1) h3 h1]
    simp
  · rw [e]; simp
  · rw [e]; simp
  · rw [e]
    rw [if_pos rfl, below_eq 29, h3]
    simp only [Option.bind_some, if_true]
    rw [rright_eq, h4]
    rfl
end Go.Proofs.Ytcabpbjghiobpaa.Pure
