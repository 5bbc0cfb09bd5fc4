-- Laid by ownprint.py (a program of the session, in wip/tools), out of the translation: Lean checks it.
import Derived.Test.YthdoanbadhfhjaaPAllx0
import Derived.Test.YthdoanbadhfhjaaOp
namespace Go.Proofs.Ythdoanbadhfhjaa.PAll
open Go.RowKit Go.Proofs.YthdoanbadhfhjaaW.PrintWords Go.Proofs.Ythdoanbadhfhjaa
set_option linter.unusedVariables false
def wf36 (x : S36) : Prop := x.f0.size ≤ 140737488351232 ∧ (Lit.int .i64 x.f1).wf = true ∧ True ∧ x.f3.size ≤ 140737488351232
set_option maxRecDepth 100000 in
theorem opn36 : Op.Opn Try.prog 36 k36 wf36 := Op.Opn.struct (wf := (fun x : (ByteArray) × (Int) × (Bool) × (ByteArray) => (fun x : (ByteArray) => x.size ≤ 140737488351232) x.1 ∧ (fun x : (Int) × (Bool) × (ByteArray) => (fun x : (Int) => (Lit.int .i64 x).wf = true) x.1 ∧ (fun x : (Bool) × (ByteArray) => (fun x : (Bool) => True) x.1 ∧ (fun x : (ByteArray) => x.size ≤ 140737488351232) x.2) x.2) x.2)) (f := fun x : S36 => (x.f0, x.f1, x.f2, x.f3)) (fun b => (⟨b.1, b.2.1, b.2.2.1, b.2.2.2⟩ : S36)) (fun _ => rfl) Try.underlying36 (by kernel_rfl) (Op.FOpn.cons (wf := (fun x : (ByteArray) => x.size ≤ 140737488351232)) (wf2 := (fun x : (Int) × (Bool) × (ByteArray) => (fun x : (Int) => (Lit.int .i64 x).wf = true) x.1 ∧ (fun x : (Bool) × (ByteArray) => (fun x : (Bool) => True) x.1 ∧ (fun x : (ByteArray) => x.size ≤ 140737488351232) x.2) x.2)) rfl (Op.Opn.string Try.underlying9 (by kernel_rfl)) rfl (Op.FOpn.cons (wf := (fun x : (Int) => (Lit.int .i64 x).wf = true)) (wf2 := (fun x : (Bool) × (ByteArray) => (fun x : (Bool) => True) x.1 ∧ (fun x : (ByteArray) => x.size ≤ 140737488351232) x.2)) rfl (Op.Opn.int (k := .i64) Try.underlying3 (by kernel_rfl)) rfl (Op.FOpn.cons (wf := (fun x : (Bool) => True)) (wf2 := (fun x : (ByteArray) => x.size ≤ 140737488351232)) rfl (Op.Opn.bool Try.underlying4 (by kernel_rfl)) rfl (Op.FOpn.one (wf := (fun x : (ByteArray) => x.size ≤ 140737488351232)) rfl (Op.Opn.string Try.underlying9 (by kernel_rfl))))))
end Go.Proofs.Ythdoanbadhfhjaa.PAll
