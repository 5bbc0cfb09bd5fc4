-- Laid by ownprint.py (a program of the session, in wip/tools), out of the translation: Lean checks it.
import Derived.Test.YtcabpbjghiobpaaPAllx8
import Derived.Test.YtcabpbjghiobpaaPAllow
namespace Go.Proofs.Ytcabpbjghiobpaa.PAll
open Go.RowKit Go.Proofs.YtcabpbjghiobpaaW.PrintWords Go.Proofs.YtcabpbjghiobpaaW.PrintLast Go.Proofs.Ytcabpbjghiobpaa
set_option linter.unusedVariables false
/-- THE ONE PURE STATEMENT of moultlaw2_LatticeWidens. -/
def moultlaw2_LatticeWidens.Pure : Prop := ∀ (s0 : S30) (a1 : Int) (a2 : Int), wf30 s0 → (Lit.int .i64 a1).wf = true → (Lit.int .i64 a2).wf = true → ∃ k, moultlaw2_LatticeWidens.f k s0.f0 s0.f1 s0.f2 a1 a2 = some true
theorem moultlaw2_LatticeWidens.walk (P : moultlaw2_LatticeWidens.Pure) (s0 : S30) (a1 : Int) (a2 : Int) (w : World)  (w0 : wf30 s0) (w1 : (Lit.int .i64 a1).wf = true) (w2 : (Lit.int .i64 a2).wf = true) :
    Calls Try.prog 7 #[.agg #[.int .i64 s0.f0, .int .i64 s0.f1, .string s0.f2], .int .i64 a1, .int .i64 a2] w fun e w' => e = .returned (.bool true) ∧ Below w.heap.size w w' := by
  obtain ⟨k, h⟩ := P s0 a1 a2 w0 w1 w2
  refine (moultlaw2_LatticeWidens.calls k s0.f0 s0.f1 s0.f2 a1 a2 true w h).mono ?_
  rintro e w' ⟨rfl, hd⟩
  exact ⟨rfl, hd⟩
end Go.Proofs.Ytcabpbjghiobpaa.PAll
