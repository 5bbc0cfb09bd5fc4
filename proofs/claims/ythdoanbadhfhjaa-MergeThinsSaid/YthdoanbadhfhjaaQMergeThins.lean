-- Laid by ownprint.py (a program of the session, in wip/tools), out of the translation: Lean checks it.
import Derived.Test.YthdoanbadhfhjaaPAllx17
import Derived.Test.YthdoanbadhfhjaaPAllow
namespace Go.Proofs.Ythdoanbadhfhjaa.PAll
open Go.RowKit Go.Proofs.YthdoanbadhfhjaaW.PrintWords Go.Proofs.YthdoanbadhfhjaaW.PrintLast Go.Proofs.Ythdoanbadhfhjaa
set_option linter.unusedVariables false
/-- THE ONE PURE STATEMENT of moultlaw12_MergeThins. -/
def moultlaw12_MergeThins.Pure : Prop := ∀ (l0 : List (S36)) (l1 : List Int) (a2 : Bool), (l0.length * 48 ≤ 140737488351232 ∧ ∀ x__ ∈ l0, wf36 x__) → (l1.length * 8 ≤ 140737488351232 ∧ ∀ x__ ∈ l1, (Lit.int .i64 x__).wf = true) → ∃ k, moultlaw12_MergeThins.f k l0 l1 a2 = some true
theorem moultlaw12_MergeThins.walk (P : moultlaw12_MergeThins.Pure) (A0 : Option Addr) (c0 : Nat) (l0 : List (S36)) (A1 : Option Addr) (c1 : Nat) (l1 : List Int) (a2 : Bool) (w : World) (hr0 : Kd.C k36 w A0 l0.length l0) (hc0 : l0.length ≤ c0) (hr1 : Kd.C (Kd.int .i64) w A1 l1.length l1) (hc1 : l1.length ≤ c1) (w0 : (l0.length * 48 ≤ 140737488351232 ∧ ∀ x__ ∈ l0, wf36 x__)) (w1 : (l1.length * 8 ≤ 140737488351232 ∧ ∀ x__ ∈ l1, (Lit.int .i64 x__).wf = true)) :
    Calls Try.prog 5 #[.slice A0 l0.length c0, .slice A1 l1.length c1, .bool a2] w fun e w' => e = .returned (.bool true) ∧ Below w.heap.size w w' := by
  obtain ⟨k, h⟩ := P l0 l1 a2 w0 w1
  refine (moultlaw12_MergeThins.calls k (fun _ => True) A0 c0 l0 A1 c1 l1 a2 true w ⟨A0, c0, rfl, hc0, fun W_ hW_ => Kd.Heap.C k36_heap (fun k_ hk_ => hW_ k_ trivial hk_) hr0⟩ hr1 hc1 h).mono ?_
  rintro e w' ⟨rfl, hd⟩
  exact ⟨rfl, hd⟩
end Go.Proofs.Ythdoanbadhfhjaa.PAll
