-- Laid by ownprint.py (a program of the session, in wip/tools), out of the translation: Lean checks it.
import Derived.Test.YtcabpbjghiobpaaPAllx12
import Derived.Test.YtcabpbjghiobpaaPAllow
namespace Go.Proofs.Ytcabpbjghiobpaa.PAll
open Go.RowKit Go.Proofs.YtcabpbjghiobpaaW.PrintWords Go.Proofs.YtcabpbjghiobpaaW.PrintLast Go.Proofs.Ytcabpbjghiobpaa
set_option linter.unusedVariables false
/-- THE ONE PURE STATEMENT of moultlaw2_LatticeKeeps. -/
def moultlaw2_LatticeKeeps.Pure : Prop := ∀ (s0 : S30) (s1 : S30) (a2 : Int), wf30 s0 → wf30 s1 → (Lit.int .i64 a2).wf = true → ∃ k, moultlaw2_LatticeKeeps.f k s0.f0 s0.f1 s0.f2 s1.f0 s1.f1 s1.f2 a2 = some true
theorem moultlaw2_LatticeKeeps.walk (P : moultlaw2_LatticeKeeps.Pure) (s0 : S30) (s1 : S30) (a2 : Int) (w : World)  (w0 : wf30 s0) (w1 : wf30 s1) (w2 : (Lit.int .i64 a2).wf = true) :
    Calls Try.prog 8 #[.agg #[.int .i64 s0.f0, .int .i64 s0.f1, .string s0.f2], .agg #[.int .i64 s1.f0, .int .i64 s1.f1, .string s1.f2], .int .i64 a2] w fun e w' => e = .returned (.bool true) ∧ Below w.heap.size w w' := by
  obtain ⟨k, h⟩ := P s0 s1 a2 w0 w1 w2
  refine (moultlaw2_LatticeKeeps.calls k s0.f0 s0.f1 s0.f2 s1.f0 s1.f1 s1.f2 a2 true w h).mono ?_
  rintro e w' ⟨rfl, hd⟩
  exact ⟨rfl, hd⟩
end Go.Proofs.Ytcabpbjghiobpaa.PAll
