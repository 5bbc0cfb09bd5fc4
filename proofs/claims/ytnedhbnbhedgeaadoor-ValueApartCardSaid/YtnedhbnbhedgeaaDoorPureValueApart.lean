/- ValueApart: the plain law. -/
import Derived.Test.YtnedhbnbhedgeaaDoorQValueApart
import Derived.Test.YtnedhbnbhedgeaaDoorPx
import Derived.Test.YtnedhbnbhedgeaaDoorLn
set_option linter.unusedVariables false
set_option linter.unusedSimpArgs false
namespace Go.Proofs.YtnedhbnbhedgeaaDoor.Val
open Go.RowKit Go.Proofs.YtnedhbnbhedgeaaDoor Go.Proofs.YtnedhbnbhedgeaaDoor.PAll Go.Proofs.YtnedhbnbhedgeaaDoorW.PrintWords Go.Lib
theorem apart_core (a0 a1 : Int) (a2 : ByteArray) (b0 b1 : Int) (b2 : ByteArray) (wa : Wide a1) (wb : Wide b1) (ra : rgt a0 a1 a2.data.toList = true) (rb : rgt b0 b1 b2.data.toList = true) : moultlaw1_ValueApart.j0L true false a0 a1 a2 b0 b1 b2 = some true := by
  rw [moultlaw1_ValueApart.j0L_eq, if_neg (by decide), print_eq _ _ _ wa, print_eq _ _ _ wb]
  simp only [Option.bind_some]
  have e1 : pr a0 a1 a2.data.toList = prl a0 a1 a2.data.toList := by unfold pr; rw [if_pos ra]
  have e2 : pr b0 b1 b2.data.toList = prl b0 b1 b2.data.toList := by unfold pr; rw [if_pos rb]
  have key : prl a0 a1 a2.data.toList = prl b0 b1 b2.data.toList ↔ a0 = b0 ∧ a1 = b1 ∧ a2.data.toList = b2.data.toList := by
    constructor
    · intro h
      have x := rdl_prl a0 a1 _ wa ra
      rw [h, rdl_prl b0 b1 _ wb rb] at x
      simp only [Prod.mk.injEq, and_true] at x
      obtain ⟨rfl, rfl, h3⟩ := x
      refine ⟨rfl, rfl, ?_⟩
      have := congrArg (fun t : ByteArray => t.data.toList) h3
      simpa using this.symm
    · rintro ⟨rfl, rfl, h⟩; rw [h]
  rw [e1, e2]
  simp only [toL, beqL]
  congr 1
  rw [beq_iff_eq, Bool.eq_iff_iff]
  simpa using key
end Go.Proofs.YtnedhbnbhedgeaaDoor.Val
namespace Go.Proofs.YtnedhbnbhedgeaaDoor.Pure
open Go.Proofs.YtnedhbnbhedgeaaDoor Go.Proofs.YtnedhbnbhedgeaaDoor.PAll Val
theorem ValueApart : PAll.moultlaw1_ValueApart.Pure := by
  intro s0 s1 h0 h1
  refine lim_some (g := fun k => moultlaw1_ValueApart.f k s0.f0 s0.f1 s0.f2 s1.f0 s1.f1 s1.f2) (show moultlaw1_ValueApart.fL s0.f0 s0.f1 s0.f2 s1.f0 s1.f1 s1.f2 = some true from ?_)
  rw [moultlaw1_ValueApart.fL_eq, shown_ev]
  simp only [Option.bind_some, if_true, rgt_eq]
  have ht : moultlaw1_ValueApart.j0L true true s0.f0 s0.f1 s0.f2 s1.f0 s1.f1 s1.f2 = some true := by
    rw [moultlaw1_ValueApart.j0L_eq, if_pos rfl]
  split
  · exact ht
  · split
    · exact ht
    · cases ra : rgt s0.f0 s0.f1 s0.f2.data.toList with
      | false => exact ht
      | true =>
        cases rb : rgt s1.f0 s1.f1 s1.f2.data.toList with
        | false => exact ht
        | true => exact apart_core s0.f0 s0.f1 s0.f2 s1.f0 s1.f1 s1.f2 (wide_of_wf h0.2.1) (wide_of_wf h1.2.1) ra rb
end Go.Proofs.YtnedhbnbhedgeaaDoor.Pure
