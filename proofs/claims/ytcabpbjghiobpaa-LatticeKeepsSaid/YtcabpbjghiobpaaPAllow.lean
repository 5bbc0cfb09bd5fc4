-- Laid by ownprint.py (a program of the session, in wip/tools), out of the translation: Lean checks it.
import Derived.Test.YtcabpbjghiobpaaPAllx0
import Derived.Test.YtcabpbjghiobpaaOp
namespace Go.Proofs.Ytcabpbjghiobpaa.PAll
open Go.RowKit Go.Proofs.YtcabpbjghiobpaaW.PrintWords Go.Proofs.Ytcabpbjghiobpaa
set_option linter.unusedVariables false
def wf30 (x : S30) : Prop := (Lit.int .i64 x.f0).wf = true ∧ (Lit.int .i64 x.f1).wf = true ∧ x.f2.size ≤ 140737488351232
set_option maxRecDepth 100000 in
theorem opn30 : Op.Opn Try.prog 30 k30 wf30 := Op.Opn.struct (wf := (fun x : (Int) × (Int) × (ByteArray) => (fun x : (Int) => (Lit.int .i64 x).wf = true) x.1 ∧ (fun x : (Int) × (ByteArray) => (fun x : (Int) => (Lit.int .i64 x).wf = true) x.1 ∧ (fun x : (ByteArray) => x.size ≤ 140737488351232) x.2) x.2)) (f := fun x : S30 => (x.f0, x.f1, x.f2)) (fun b => (⟨b.1, b.2.1, b.2.2⟩ : S30)) (fun _ => rfl) Try.underlying30 (by kernel_rfl) (Op.FOpn.cons (wf := (fun x : (Int) => (Lit.int .i64 x).wf = true)) (wf2 := (fun x : (Int) × (ByteArray) => (fun x : (Int) => (Lit.int .i64 x).wf = true) x.1 ∧ (fun x : (ByteArray) => x.size ≤ 140737488351232) x.2)) rfl (Op.Opn.int (k := .i64) Try.underlying3 (by kernel_rfl)) rfl (Op.FOpn.cons (wf := (fun x : (Int) => (Lit.int .i64 x).wf = true)) (wf2 := (fun x : (ByteArray) => x.size ≤ 140737488351232)) rfl (Op.Opn.int (k := .i64) Try.underlying3 (by kernel_rfl)) rfl (Op.FOpn.one (wf := (fun x : (ByteArray) => x.size ≤ 140737488351232)) rfl (Op.Opn.string Try.underlying9 (by kernel_rfl)))))
end Go.Proofs.Ytcabpbjghiobpaa.PAll
