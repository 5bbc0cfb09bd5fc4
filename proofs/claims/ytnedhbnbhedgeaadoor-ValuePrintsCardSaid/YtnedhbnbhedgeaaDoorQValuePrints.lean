-- Laid by ownprint.py (a program of the session, in wip/tools), out of the translation: Lean checks it.
import Derived.Test.YtnedhbnbhedgeaaDoorPAllx6
import Derived.Test.YtnedhbnbhedgeaaDoorPAllow
namespace Go.Proofs.YtnedhbnbhedgeaaDoor.PAll
open Go.RowKit Go.Proofs.YtnedhbnbhedgeaaDoorW.PrintWords Go.Proofs.YtnedhbnbhedgeaaDoorW.PrintLast Go.Proofs.YtnedhbnbhedgeaaDoor
set_option linter.unusedVariables false
/-- THE ONE PURE STATEMENT of moultlaw1_ValuePrints. -/
def moultlaw1_ValuePrints.Pure : Prop := ∀ (s0 : S23), wf23 s0 → ∃ k, moultlaw1_ValuePrints.f k s0.f0 s0.f1 s0.f2 = some true
theorem moultlaw1_ValuePrints.walk (P : moultlaw1_ValuePrints.Pure) (s0 : S23) (w : World)  (w0 : wf23 s0) (hG : Laid w) :
    Calls Tryd.prog 4 #[.agg #[.int .i64 s0.f0, .int .i64 s0.f1, .string s0.f2]] w fun e w' => e = .returned (.bool true) ∧ Below w.heap.size w w' := by
  obtain ⟨k, h⟩ := P s0 w0
  refine (moultlaw1_ValuePrints.calls k s0.f0 s0.f1 s0.f2 true w h hG).mono ?_
  rintro e w' ⟨rfl, hd⟩
  exact ⟨rfl, hd⟩
end Go.Proofs.YtnedhbnbhedgeaaDoor.PAll
