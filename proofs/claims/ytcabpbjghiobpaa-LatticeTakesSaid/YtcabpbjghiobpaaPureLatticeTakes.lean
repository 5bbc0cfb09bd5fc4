/- For any value and any number the program's Widen and Narrow answer as the document's do: no condition but the statement's own. -/
import Derived.Test.YtcabpbjghiobpaaQLatticeTakes
import Derived.Test.YtcabpbjghiobpaaPd
set_option linter.unusedSimpArgs false
namespace Go.Proofs.Ytcabpbjghiobpaa.Pure
open Go.RowKit Go.Proofs.Ytcabpbjghiobpaa.PAll Go.Proofs.Ytcabpbjghiobpaa.Lat Go.Proofs.YtcabpbjghiobpaaW.PrintWords Go.Proofs.YtcabpbjghiobpaaW.PrintLast Go.Proofs.YtcabpbjghiobpaaW.PrintMore
theorem LatticeTakes : moultlaw2_LatticeTakes.Pure := by
  intro v q _ _
  refine ⟨40, ?_⟩
  unfold moultlaw2_LatticeTakes.f
  rw [shown_eq 0]
  simp only [Option.bind_some, if_true]
  simp only [moultlaw2_LatticeTakes.j0]
  rw [widen_eq 29, rwiden_eq 38, narrow_eq 29, rnarrow_eq 38, takeR_wide]
  simp
end Go.Proofs.Ytcabpbjghiobpaa.Pure
