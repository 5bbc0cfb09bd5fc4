-- Laid by ownprint.py (a program of the session, in wip/tools), out of the translation: Lean checks it.
import Derived.Test.YthdoanbadhfhjaaPAllx16
import Derived.Test.YthdoanbadhfhjaaPAllow
namespace Go.Proofs.Ythdoanbadhfhjaa.PAll
open Go.RowKit Go.Proofs.YthdoanbadhfhjaaW.PrintWords Go.Proofs.YthdoanbadhfhjaaW.PrintLast Go.Proofs.Ythdoanbadhfhjaa
set_option linter.unusedVariables false
/-- THE ONE PURE STATEMENT of moultlaw12_MergeSorts. -/
def moultlaw12_MergeSorts.Pure : Prop := ∀ (l0 : List (List (S36))) (l1 : List (S36)), (l0.length * 24 ≤ 140737488351232 ∧ ∀ x__ ∈ l0, (x__.length * 48 ≤ 140737488351232 ∧ ∀ x2__ ∈ x__, wf36 x2__)) → (l1.length * 48 ≤ 140737488351232 ∧ ∀ x__ ∈ l1, wf36 x__) → ∃ k, moultlaw12_MergeSorts.f k l0 l1 = some true
theorem moultlaw12_MergeSorts.walk (P : moultlaw12_MergeSorts.Pure) (A0 : Option Addr) (c0 : Nat) (l0 : List (List (S36))) (A1 : Option Addr) (c1 : Nat) (l1 : List (S36)) (w : World) (hr0 : Kd.C (Kd.slice 36 k36) w A0 l0.length l0) (hc0 : l0.length ≤ c0) (hr1 : Kd.C k36 w A1 l1.length l1) (hc1 : l1.length ≤ c1) (w0 : (l0.length * 24 ≤ 140737488351232 ∧ ∀ x__ ∈ l0, (x__.length * 48 ≤ 140737488351232 ∧ ∀ x2__ ∈ x__, wf36 x2__))) (w1 : (l1.length * 48 ≤ 140737488351232 ∧ ∀ x__ ∈ l1, wf36 x__)) :
    Calls Try.prog 4 #[.slice A0 l0.length c0, .slice A1 l1.length c1] w fun e w' => e = .returned (.bool true) ∧ Below w.heap.size w w' := by
  obtain ⟨k, h⟩ := P l0 l1 w0 w1
  refine (moultlaw12_MergeSorts.calls k A0 c0 l0 A1 c1 l1 true w hr0 hc0 hr1 hc1 h).mono ?_
  rintro e w' ⟨rfl, hd⟩
  exact ⟨rfl, hd⟩
end Go.Proofs.Ythdoanbadhfhjaa.PAll
