-- Laid by ownprint.py (a program of the session, in wip/tools), out of the translation: Lean checks it.
import Derived.Test.YthdoanbadhfhjaaPAllx19
import Derived.Test.YthdoanbadhfhjaaPAllow
namespace Go.Proofs.Ythdoanbadhfhjaa.PAll
open Go.RowKit Go.Proofs.YthdoanbadhfhjaaW.PrintWords Go.Proofs.YthdoanbadhfhjaaW.PrintLast Go.Proofs.Ythdoanbadhfhjaa
set_option linter.unusedVariables false
/-- THE ONE PURE STATEMENT of moultlaw12_MergeSees. -/
def moultlaw12_MergeSees.Pure : Prop := ∀ (l0 : List (S36)) (a1 : Int), (l0.length * 48 ≤ 140737488351232 ∧ ∀ x__ ∈ l0, wf36 x__) → (Lit.int .i64 a1).wf = true → ∃ k, moultlaw12_MergeSees.f k l0 a1 = some true
theorem moultlaw12_MergeSees.walk (P : moultlaw12_MergeSees.Pure) (A0 : Option Addr) (c0 : Nat) (l0 : List (S36)) (a1 : Int) (w : World) (hr0 : Kd.C k36 w A0 l0.length l0) (hc0 : l0.length ≤ c0) (w0 : (l0.length * 48 ≤ 140737488351232 ∧ ∀ x__ ∈ l0, wf36 x__)) (w1 : (Lit.int .i64 a1).wf = true) :
    Calls Try.prog 7 #[.slice A0 l0.length c0, .int .i64 a1] w fun e w' => e = .returned (.bool true) ∧ Below w.heap.size w w' := by
  obtain ⟨k, h⟩ := P l0 a1 w0 w1
  refine (moultlaw12_MergeSees.calls k (fun _ => True) A0 c0 l0 a1 true w ⟨A0, c0, rfl, hc0, fun W_ hW_ => Kd.Heap.C k36_heap (fun k_ hk_ => hW_ k_ trivial hk_) hr0⟩ h).mono ?_
  rintro e w' ⟨rfl, hd⟩
  exact ⟨rfl, hd⟩
end Go.Proofs.Ythdoanbadhfhjaa.PAll
