/- For any two numbers the program's Below, Above, Join and Meet answer as the document's do: no condition. -/
import Derived.Test.YtcabpbjghiobpaaPAllx5
import Derived.Test.YtcabpbjghiobpaaPd
set_option linter.unusedSimpArgs false
namespace Go.Proofs.Ytcabpbjghiobpaa.Pure
open Go.RowKit Go.Proofs.Ytcabpbjghiobpaa.PAll Go.Proofs.Ytcabpbjghiobpaa.Lat Go.Proofs.YtcabpbjghiobpaaW.PrintWords Go.Proofs.YtcabpbjghiobpaaW.PrintLast Go.Proofs.YtcabpbjghiobpaaW.PrintMore
theorem LatticeTells : moultlaw2_LatticeTells.Pure := by
  intro a b _ _
  refine ⟨40, ?_⟩
  unfold moultlaw2_LatticeTells.f
  rw [shown_eq 0]
  simp only [Option.bind_some, if_true]
  rw [join_eq 30, rjoin_eq 33, meet_eq 30, rmeet_eq 33, below_eq 30, rbelow_eq]
  simp only [Option.bind_some]
  rw [above_eqL 30, rabove_eq 33]
  simp only [Option.bind_some]
  rw [same_above 30]
  cases sameB a b <;> simp
end Go.Proofs.Ytcabpbjghiobpaa.Pure
