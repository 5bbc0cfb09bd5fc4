-- Laid by ownprint.py (a program of the session, in wip/tools), out of the translation: Lean checks it.
import Derived.Test.YthdoanbadhfhjaaPAllx14
import Derived.Test.YthdoanbadhfhjaaPAllow
namespace Go.Proofs.Ythdoanbadhfhjaa.PAll
open Go.RowKit Go.Proofs.YthdoanbadhfhjaaW.PrintWords Go.Proofs.YthdoanbadhfhjaaW.PrintLast Go.Proofs.Ythdoanbadhfhjaa
set_option linter.unusedVariables false
/-- THE ONE PURE STATEMENT of moultlaw12_MergePlays. -/
def moultlaw12_MergePlays.Pure : Prop := ∀ (l0 : List (List (S36))) (a1 : Int) (l2 : List Int) (a3 : Bool), (l0.length * 24 ≤ 140737488351232 ∧ ∀ x__ ∈ l0, (x__.length * 48 ≤ 140737488351232 ∧ ∀ x2__ ∈ x__, wf36 x2__)) → (Lit.int .i64 a1).wf = true → (l2.length * 8 ≤ 140737488351232 ∧ ∀ x__ ∈ l2, (Lit.int .i64 x__).wf = true) → ∃ k, moultlaw12_MergePlays.f k l0 a1 l2 a3 = some true
theorem moultlaw12_MergePlays.walk (P : moultlaw12_MergePlays.Pure) (A0 : Option Addr) (c0 : Nat) (l0 : List (List (S36))) (a1 : Int) (A2 : Option Addr) (c2 : Nat) (l2 : List Int) (a3 : Bool) (w : World) (hr0 : Kd.C (Kd.slice 36 k36) w A0 l0.length l0) (hc0 : l0.length ≤ c0) (hr2 : Kd.C (Kd.int .i64) w A2 l2.length l2) (hc2 : l2.length ≤ c2) (w0 : (l0.length * 24 ≤ 140737488351232 ∧ ∀ x__ ∈ l0, (x__.length * 48 ≤ 140737488351232 ∧ ∀ x2__ ∈ x__, wf36 x2__))) (w1 : (Lit.int .i64 a1).wf = true) (w2 : (l2.length * 8 ≤ 140737488351232 ∧ ∀ x__ ∈ l2, (Lit.int .i64 x__).wf = true)) :
    Calls Try.prog 3 #[.slice A0 l0.length c0, .int .i64 a1, .slice A2 l2.length c2, .bool a3] w fun e w' => e = .returned (.bool true) ∧ Below w.heap.size w w' := by
  obtain ⟨k, h⟩ := P l0 a1 l2 a3 w0 w1 w2
  refine (moultlaw12_MergePlays.calls k A0 c0 l0 a1 A2 c2 l2 a3 true w hr0 hc0 hr2 hc2 h).mono ?_
  rintro e w' ⟨rfl, hd⟩
  exact ⟨rfl, hd⟩
end Go.Proofs.Ythdoanbadhfhjaa.PAll
