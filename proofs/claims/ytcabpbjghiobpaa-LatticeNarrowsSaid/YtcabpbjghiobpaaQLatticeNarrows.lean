-- Laid by ownprint.py (a program of the session, in wip/tools), out of the translation: Lean checks it.
import Derived.Test.YtcabpbjghiobpaaPAllx10
import Derived.Test.YtcabpbjghiobpaaPAllow
namespace Go.Proofs.Ytcabpbjghiobpaa.PAll
open Go.RowKit Go.Proofs.YtcabpbjghiobpaaW.PrintWords Go.Proofs.YtcabpbjghiobpaaW.PrintLast Go.Proofs.Ytcabpbjghiobpaa
set_option linter.unusedVariables false
/-- THE ONE PURE STATEMENT of moultlaw2_LatticeNarrows. -/
def moultlaw2_LatticeNarrows.Pure : Prop := ∀ (s0 : S30) (a1 : Int), wf30 s0 → (Lit.int .i64 a1).wf = true → ∃ k, moultlaw2_LatticeNarrows.f k s0.f0 s0.f1 s0.f2 a1 = some true
theorem moultlaw2_LatticeNarrows.walk (P : moultlaw2_LatticeNarrows.Pure) (s0 : S30) (a1 : Int) (w : World)  (w0 : wf30 s0) (w1 : (Lit.int .i64 a1).wf = true) :
    Calls Try.prog 9 #[.agg #[.int .i64 s0.f0, .int .i64 s0.f1, .string s0.f2], .int .i64 a1] w fun e w' => e = .returned (.bool true) ∧ Below w.heap.size w w' := by
  obtain ⟨k, h⟩ := P s0 a1 w0 w1
  refine (moultlaw2_LatticeNarrows.calls k s0.f0 s0.f1 s0.f2 a1 true w h).mono ?_
  rintro e w' ⟨rfl, hd⟩
  exact ⟨rfl, hd⟩
end Go.Proofs.Ytcabpbjghiobpaa.PAll
