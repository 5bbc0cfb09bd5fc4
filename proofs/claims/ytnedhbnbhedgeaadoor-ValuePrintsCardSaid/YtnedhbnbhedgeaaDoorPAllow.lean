-- Laid by ownprint.py (a program of the session, in wip/tools), out of the translation: Lean checks it.
import Derived.Test.YtnedhbnbhedgeaaDoorPAllx0
import Derived.Test.YtnedhbnbhedgeaaDoorOp
namespace Go.Proofs.YtnedhbnbhedgeaaDoor.PAll
open Go.RowKit Go.Proofs.YtnedhbnbhedgeaaDoorW.PrintWords Go.Proofs.YtnedhbnbhedgeaaDoor
set_option linter.unusedVariables false
def wf23 (x : S23) : Prop := (Lit.int .i64 x.f0).wf = true ∧ (Lit.int .i64 x.f1).wf = true ∧ x.f2.size ≤ 140737488351232
set_option maxRecDepth 100000 in
theorem opn23 : Op.Opn Tryd.prog 23 k23 wf23 := Op.Opn.struct (wf := (fun x : (Int) × (Int) × (ByteArray) => (fun x : (Int) => (Lit.int .i64 x).wf = true) x.1 ∧ (fun x : (Int) × (ByteArray) => (fun x : (Int) => (Lit.int .i64 x).wf = true) x.1 ∧ (fun x : (ByteArray) => x.size ≤ 140737488351232) x.2) x.2)) (f := fun x : S23 => (x.f0, x.f1, x.f2)) (fun b => (⟨b.1, b.2.1, b.2.2⟩ : S23)) (fun _ => rfl) Tryd.underlying23 (by kernel_rfl) (Op.FOpn.cons (wf := (fun x : (Int) => (Lit.int .i64 x).wf = true)) (wf2 := (fun x : (Int) × (ByteArray) => (fun x : (Int) => (Lit.int .i64 x).wf = true) x.1 ∧ (fun x : (ByteArray) => x.size ≤ 140737488351232) x.2)) rfl (Op.Opn.int (k := .i64) Tryd.underlying3 (by kernel_rfl)) rfl (Op.FOpn.cons (wf := (fun x : (Int) => (Lit.int .i64 x).wf = true)) (wf2 := (fun x : (ByteArray) => x.size ≤ 140737488351232)) rfl (Op.Opn.int (k := .i64) Tryd.underlying3 (by kernel_rfl)) rfl (Op.FOpn.one (wf := (fun x : (ByteArray) => x.size ≤ 140737488351232)) rfl (Op.Opn.string Tryd.underlying9 (by kernel_rfl)))))
end Go.Proofs.YtnedhbnbhedgeaaDoor.PAll
