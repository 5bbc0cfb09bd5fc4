/- ValueBack: the plain law. -/
import Derived.Test.YtnedhbnbhedgeaaDoorQValueBack
import Derived.Test.YtnedhbnbhedgeaaDoorPx
import Derived.Test.YtnedhbnbhedgeaaDoorLk
set_option linter.unusedVariables false
set_option linter.unusedSimpArgs false
namespace Go.Proofs.YtnedhbnbhedgeaaDoor.Val
open Go.RowKit Go.Proofs.YtnedhbnbhedgeaaDoor Go.Proofs.YtnedhbnbhedgeaaDoor.PAll Go.Proofs.YtnedhbnbhedgeaaDoorW.PrintWords Go.Lib
theorem back_second (b : ByteArray) (hb : b.size ≤ 1000000) : moultlaw1_ValueBack.j1L b false = some true := by
  rw [moultlaw1_ValueBack.j1L_eq, if_neg (by decide), read_eq b hb]
  simp only [Option.bind_some]
  by_cases h : (rdAns b.data.toList).2.2.2 = 0
  · obtain ⟨h1, h2, h3⟩ := rdAns_ok _ h
    rw [if_pos h, h1]
    simp only [rgt_eq, Option.bind_some, h2, if_true]
    rw [print_eq _ _ _ (rdl_wide _)]
    simp only [Option.bind_some, toL, beqL, h3]
    simp
  · have h1 := rdAns_bad _ h
    rw [if_neg h, h1]
    simp only [if_true]
    have e : (⟨#[]⟩ : ByteArray).toList = [] := by decide +kernel
    rw [e]
    rfl
theorem back_core (a0 a1 : Int) (a2 : ByteArray) (b : ByteArray) (wa : Wide a1) (ha : a2.size ≤ 3000) (hb : b.size ≤ 1000000) : moultlaw1_ValueBack.j0L b true false a0 a1 a2 = some true := by
  rw [moultlaw1_ValueBack.j0L_eq, if_neg (by decide), rgt_eq, print_eq _ _ _ wa]
  simp only [Option.bind_some]
  have hs := back_second b hb
  have hl := prl_len a0 a1 a2.data.toList wa (by rw [len_rgt]; exact ha)
  cases ra : rgt a0 a1 a2.data.toList with
  | true =>
    have e1 : pr a0 a1 a2.data.toList = prl a0 a1 a2.data.toList := by unfold pr; rw [if_pos ra]
    rw [e1, read_eq _ (by simp [← ByteArray.size_data]; omega)]
    simp only [Option.bind_some]
    rw [rdAns_prl a0 a1 _ wa ra]
    simp only [ba_eta]
    simp
    exact hs
  | false =>
    have e1 : pr a0 a1 a2.data.toList = [] := by unfold pr; rw [ra]; rfl
    rw [e1, read_eq _ (by decide)]
    simp only [Option.bind_some]
    rw [rdAns_nil]
    simp
    exact hs
end Go.Proofs.YtnedhbnbhedgeaaDoor.Val
namespace Go.Proofs.YtnedhbnbhedgeaaDoor.Pure
open Go.Proofs.YtnedhbnbhedgeaaDoor Go.Proofs.YtnedhbnbhedgeaaDoor.PAll Val
theorem ValueBack : PAll.moultlaw1_ValueBack.Pure := by
  intro s0 b h0 hb
  refine lim_some (g := fun k => moultlaw1_ValueBack.f k s0.f0 s0.f1 s0.f2 b) (show moultlaw1_ValueBack.fL s0.f0 s0.f1 s0.f2 b = some true from ?_)
  rw [moultlaw1_ValueBack.fL_eq, shown_ev]
  simp only [Option.bind_some, if_true]
  have ht : moultlaw1_ValueBack.j0L b true true s0.f0 s0.f1 s0.f2 = some true := by
    rw [moultlaw1_ValueBack.j0L_eq, if_pos rfl]
  split
  · exact ht
  · rename_i h1
    by_cases h2 : (b.size : Int) > 5000
    · rw [decide_eq_true h2]; exact ht
    · rw [decide_eq_false h2]
      exact back_core s0.f0 s0.f1 s0.f2 b (wide_of_wf h0.2.1) (by omega) (by omega)
end Go.Proofs.YtnedhbnbhedgeaaDoor.Pure
