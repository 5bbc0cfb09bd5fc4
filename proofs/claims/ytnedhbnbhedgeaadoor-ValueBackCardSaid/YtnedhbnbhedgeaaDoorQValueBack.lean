-- Laid by ownprint.py (a program of the session, in wip/tools), out of the translation: Lean checks it.
import Derived.Test.YtnedhbnbhedgeaaDoorPAllx9
import Derived.Test.YtnedhbnbhedgeaaDoorPAllow
namespace Go.Proofs.YtnedhbnbhedgeaaDoor.PAll
open Go.RowKit Go.Proofs.YtnedhbnbhedgeaaDoorW.PrintWords Go.Proofs.YtnedhbnbhedgeaaDoorW.PrintLast Go.Proofs.YtnedhbnbhedgeaaDoor
set_option linter.unusedVariables false
/-- THE ONE PURE STATEMENT of moultlaw1_ValueBack. -/
def moultlaw1_ValueBack.Pure : Prop := ∀ (s0 : S23) (a1 : ByteArray), wf23 s0 → a1.size ≤ 140737488351232 → ∃ k, moultlaw1_ValueBack.f k s0.f0 s0.f1 s0.f2 a1 = some true
theorem moultlaw1_ValueBack.walk (P : moultlaw1_ValueBack.Pure) (s0 : S23) (a1 : ByteArray) (w : World)  (w0 : wf23 s0) (w1 : a1.size ≤ 140737488351232) (hG : Laid w) :
    Calls Tryd.prog 6 #[.agg #[.int .i64 s0.f0, .int .i64 s0.f1, .string s0.f2], .string a1] w fun e w' => e = .returned (.bool true) ∧ Below w.heap.size w w' := by
  obtain ⟨k, h⟩ := P s0 a1 w0 w1
  refine (moultlaw1_ValueBack.calls k s0.f0 s0.f1 s0.f2 a1 true w h hG).mono ?_
  rintro e w' ⟨rfl, hd⟩
  exact ⟨rfl, hd⟩
end Go.Proofs.YtnedhbnbhedgeaaDoor.PAll
