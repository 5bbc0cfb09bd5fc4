/- ValuePrints: the plain law. -/
import Derived.Test.YtnedhbnbhedgeaaDoorQValuePrints
import Derived.Test.YtnedhbnbhedgeaaDoorPy
import Derived.Test.YtnedhbnbhedgeaaDoorLc
set_option linter.unusedVariables false
set_option linter.unusedSimpArgs false
namespace Go.Proofs.YtnedhbnbhedgeaaDoor.Val
open Go.RowKit Go.Proofs.YtnedhbnbhedgeaaDoor Go.Proofs.YtnedhbnbhedgeaaDoor.PAll Go.Proofs.YtnedhbnbhedgeaaDoorW.PrintWords Go.Lib
theorem ref_print_eq (k n : Int) (s : ByteArray) (hn : Wide n) (hs : s.size ≤ 1000000) : moultref1_Print.fL k n s = some ⟨(pr k n s.data.toList).toArray⟩ := by
  rw [moultref1_Print.fL_eq, ref_rgt]
  simp only [Option.bind_some]
  unfold pr
  by_cases hr : rgt k n s.data.toList = true
  · rw [if_pos hr, if_pos hr, decimal_eq n hn]
    have q1 := quoted_eq s 39 hs
    have q2 := quoted_eq s 34 hs
    rw [show (((39 : UInt8).toNat : Nat) : Int) = 39 from rfl] at q1
    rw [show (((34 : UInt8).toNat : Nat) : Int) = 34 from rfl] at q2
    rw [q1, q2]
    simp only [Option.bind_some]
    have hl := itoa_length_le n hn.1 hn.2
    have hsz : (⟨(itoa n).toArray⟩ : ByteArray).size = (itoa n).length := by simp [← ByteArray.size_data]
    unfold prl
    by_cases h1 : k = 1
    · rw [if_pos h1, if_pos h1]
      unfold rgt at hr
      rw [if_pos h1] at hr
      have hb := of_decide_eq_true hr
      rw [if_pos hb.2.1, if_pos (by simp; omega)]
      by_cases hz : n = 0
      · rw [if_pos hz]; subst hz; rfl
      · rw [if_neg hz]
        obtain rfl : n = 1 := by omega
        rfl
    · rw [if_neg h1, if_neg h1]
      by_cases h2 : k = 2
      · rw [if_pos h2, if_pos h2, hsz, if_pos (by omega)]
        rw [show (⟨#[115]⟩ : ByteArray) = ⟨[115].toArray⟩ from rfl, ba_app]
      · rw [if_neg h2, if_neg h2]
        by_cases h3 : k = 3
        · rw [if_pos h3, if_pos h3, hsz, if_pos (by omega)]
          rw [show (⟨#[105]⟩ : ByteArray) = ⟨[105].toArray⟩ from rfl, ba_app]
        · rw [if_neg h3, if_neg h3]
          by_cases h4 : k = 4
          · rw [if_pos h4, if_pos h4]
          · rw [if_neg h4, if_neg h4]
            by_cases h5 : k = 5
            · rw [if_pos h5, if_pos h5]
            · rw [if_neg h5, if_neg h5]
  · rw [if_neg hr, if_neg hr]
theorem prints_core (a0 a1 : Int) (a2 : ByteArray) (t : Bool) (wa : Wide a1) (ha : a2.size ≤ 3000) : moultlaw1_ValuePrints.j0L t false a0 a1 a2 = some true := by
  rw [moultlaw1_ValuePrints.j0L_eq, if_neg (by decide), print_eq _ _ _ wa, ref_print_eq _ _ _ wa (by omega)]
  simp
end Go.Proofs.YtnedhbnbhedgeaaDoor.Val
namespace Go.Proofs.YtnedhbnbhedgeaaDoor.Pure
open Go.Proofs.YtnedhbnbhedgeaaDoor Go.Proofs.YtnedhbnbhedgeaaDoor.PAll Val
theorem ValuePrints : PAll.moultlaw1_ValuePrints.Pure := by
  intro s0 h0
  refine lim_some (g := fun k => moultlaw1_ValuePrints.f k s0.f0 s0.f1 s0.f2) (show moultlaw1_ValuePrints.fL s0.f0 s0.f1 s0.f2 = some true from ?_)
  rw [moultlaw1_ValuePrints.fL_eq, shown_ev]
  simp only [Option.bind_some, if_true]
  by_cases h : (s0.f2.size : Int) > 3000
  · rw [decide_eq_true h, moultlaw1_ValuePrints.j0L_eq, if_pos rfl]
  · rw [decide_eq_false h]
    exact prints_core s0.f0 s0.f1 s0.f2 true (wide_of_wf h0.2.1) (by omega)
end Go.Proofs.YtnedhbnbhedgeaaDoor.Pure
