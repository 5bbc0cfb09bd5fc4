-- Laid by ownprint.py (a program of the session, in wip/tools), out of the translation: Lean checks it.
import Derived.Test.YtnedhbnbhedgeaaDoorPAllx11
import Derived.Test.YtnedhbnbhedgeaaDoorPAllow
namespace Go.Proofs.YtnedhbnbhedgeaaDoor.PAll
open Go.RowKit Go.Proofs.YtnedhbnbhedgeaaDoorW.PrintWords Go.Proofs.YtnedhbnbhedgeaaDoorW.PrintLast Go.Proofs.YtnedhbnbhedgeaaDoor
set_option linter.unusedVariables false
/-- THE ONE PURE STATEMENT of moultlaw1_ValueRights. -/
def moultlaw1_ValueRights.Pure : Prop := ∀ (s0 : S23) (a1 : Int), wf23 s0 → (Lit.int .i64 a1).wf = true → ∃ k, moultlaw1_ValueRights.f k s0.f0 s0.f1 s0.f2 a1 = some true
theorem moultlaw1_ValueRights.walk (P : moultlaw1_ValueRights.Pure) (s0 : S23) (a1 : Int) (w : World)  (w0 : wf23 s0) (w1 : (Lit.int .i64 a1).wf = true) (hG : Laid w) :
    Calls Tryd.prog 9 #[.agg #[.int .i64 s0.f0, .int .i64 s0.f1, .string s0.f2], .int .i64 a1] w fun e w' => e = .returned (.bool true) ∧ Below w.heap.size w w' := by
  obtain ⟨k, h⟩ := P s0 a1 w0 w1
  refine (moultlaw1_ValueRights.calls k s0.f0 s0.f1 s0.f2 a1 true w h hG).mono ?_
  rintro e w' ⟨rfl, hd⟩
  exact ⟨rfl, hd⟩
end Go.Proofs.YtnedhbnbhedgeaaDoor.PAll
