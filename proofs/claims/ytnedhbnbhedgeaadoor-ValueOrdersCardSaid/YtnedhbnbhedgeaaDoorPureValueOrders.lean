/- ValueOrders: the plain law. -/
import Derived.Test.YtnedhbnbhedgeaaDoorQValueOrders
import Derived.Test.YtnedhbnbhedgeaaDoorLk
import Derived.Test.YtnedhbnbhedgeaaDoorPv
set_option linter.unusedVariables false
set_option linter.unusedSimpArgs false
namespace Go.Proofs.YtnedhbnbhedgeaaDoor.Val
open Go.RowKit Go.Proofs.YtnedhbnbhedgeaaDoor Go.Proofs.YtnedhbnbhedgeaaDoor.PAll Go.Proofs.YtnedhbnbhedgeaaDoorW.PrintWords
theorem cle_trans (a b c : List UInt8) (h1 : Lib.compareBytes a b ≤ 0) (h2 : Lib.compareBytes b c ≤ 0) : Lib.compareBytes a c ≤ 0 := by
  by_cases e1 : Lib.compareBytes a b = 0
  · rw [(cmp_zero a b).mp e1]; exact h2
  · by_cases e2 : Lib.compareBytes b c = 0
    · rw [← (cmp_zero b c).mp e2]; exact h1
    · have := cmp_trans a b c (by omega) (by omega); omega
theorem vrange (a0 a1 : Int) (a2 : ByteArray) (b0 b1 : Int) (b2 : ByteArray) : -1 ≤ vcmp a0 a1 a2 b0 b1 b2 ∧ vcmp a0 a1 a2 b0 b1 b2 ≤ 1 := by
  have h := cmp_or a2.data.toList b2.data.toList
  unfold vcmp or3 cmp3
  by_cases h1 : a0 < b0
  · simp [h1]
  · by_cases h2 : b0 < a0
    · simp [h1, h2]
    · by_cases h3 : a1 < b1
      · simp [h1, h2, h3]
      · by_cases h4 : b1 < a1
        · simp [h1, h2, h3, h4]
        · simp [h1, h2, h3, h4]; omega
theorem vflip (a0 a1 : Int) (a2 : ByteArray) (b0 b1 : Int) (b2 : ByteArray) : vcmp a0 a1 a2 b0 b1 b2 = -vcmp b0 b1 b2 a0 a1 a2 := by
  have h := cmp_flip a2.data.toList b2.data.toList
  unfold vcmp or3 cmp3
  by_cases h1 : a0 < b0
  · have : ¬ b0 < a0 := by omega
    simp [h1, this]
  · by_cases h2 : b0 < a0
    · simp [h1, h2]
    · by_cases h3 : a1 < b1
      · have : ¬ b1 < a1 := by omega
        simp [h1, h2, h3, this]
      · by_cases h4 : b1 < a1
        · simp [h1, h2, h3, h4]
        · simp [h1, h2, h3, h4, h]
theorem vzero (a0 a1 : Int) (a2 : ByteArray) (b0 b1 : Int) (b2 : ByteArray) : vcmp a0 a1 a2 b0 b1 b2 = 0 ↔ a0 = b0 ∧ a1 = b1 ∧ a2.data.toList = b2.data.toList := by
  have h := cmp_zero a2.data.toList b2.data.toList
  unfold vcmp or3 cmp3
  by_cases h1 : a0 < b0
  · have : ¬ a0 = b0 := by omega
    simp [h1, this]
  · by_cases h2 : b0 < a0
    · have : ¬ a0 = b0 := by omega
      simp [h1, h2, this]
    · have e0 : a0 = b0 := by omega
      by_cases h3 : a1 < b1
      · have : ¬ a1 = b1 := by omega
        simp [h1, h2, h3, this]
      · by_cases h4 : b1 < a1
        · have : ¬ a1 = b1 := by omega
          simp [h1, h2, h3, h4, this]
        · have e1 : a1 = b1 := by omega
          simp [h1, h2, h3, h4, e0, e1, h]
theorem vle (a0 a1 : Int) (a2 : ByteArray) (b0 b1 : Int) (b2 : ByteArray) : vcmp a0 a1 a2 b0 b1 b2 ≤ 0 ↔ (a0 < b0 ∨ a0 = b0 ∧ (a1 < b1 ∨ a1 = b1 ∧ Lib.compareBytes a2.data.toList b2.data.toList ≤ 0)) := by
  unfold vcmp or3 cmp3
  by_cases h1 : a0 < b0
  · simp [h1]
  · by_cases h2 : b0 < a0
    · have : ¬ a0 = b0 := by omega
      simp [h1, h2, this]
    · have e0 : a0 = b0 := by omega
      by_cases h3 : a1 < b1
      · simp [h1, h2, h3, e0]
      · by_cases h4 : b1 < a1
        · have : ¬ a1 = b1 := by omega
          simp [h1, h2, h3, h4, this]
        · have e1 : a1 = b1 := by omega
          simp [h1, h2, h3, h4, e0, e1]
theorem vtrans (a0 a1 : Int) (a2 : ByteArray) (b0 b1 : Int) (b2 : ByteArray) (c0 c1 : Int) (c2 : ByteArray) (h1 : vcmp a0 a1 a2 b0 b1 b2 ≤ 0) (h2 : vcmp b0 b1 b2 c0 c1 c2 ≤ 0) : vcmp a0 a1 a2 c0 c1 c2 ≤ 0 := by
  rw [vle] at h1 h2 ⊢
  have h := cle_trans a2.data.toList b2.data.toList c2.data.toList
  omega
theorem teq (a b : ByteArray) : (a.toList == b.toList) = decide (a.data.toList = b.data.toList) := by rw [toL, toL, Bool.eq_iff_iff]; simp
theorem orders_core (a0 a1 : Int) (a2 : ByteArray) (b0 b1 : Int) (b2 : ByteArray) (c0 c1 : Int) (c2 : ByteArray) : moultlaw1_ValueOrders.j0L true false a0 a1 a2 b0 b1 b2 c0 c1 c2 = some true := by
  rw [moultlaw1_ValueOrders.j0L_eq, if_neg (by decide)]
  simp only [vcmp_eq, Option.bind_some]
  have r := vrange a0 a1 a2 b0 b1 b2
  have f := vflip b0 b1 b2 a0 a1 a2
  have z := vzero a0 a1 a2 b0 b1 b2
  have hw : wrap64 (-vcmp b0 b1 b2 a0 a1 a2) = vcmp a0 a1 a2 b0 b1 b2 := by unfold wrap64; omega
  have ht := vtrans a0 a1 a2 b0 b1 b2 c0 c1 c2
  have hx : ((vcmp a0 a1 a2 b0 b1 b2 == 0) != (a0 == b0 && (a1 == b1 && (a2.toList == b2.toList)))) = false := by
    rw [teq]
    have : (vcmp a0 a1 a2 b0 b1 b2 == 0) = (a0 == b0 && (a1 == b1 && decide (a2.data.toList = b2.data.toList))) := by
      rw [Bool.eq_iff_iff]
      simpa using z
    rw [this]; simp
  rw [hw, if_pos rfl, hx, if_neg (by decide), if_neg (by omega), if_neg (by omega)]
  by_cases g1 : vcmp a0 a1 a2 b0 b1 b2 > 0
  · rw [if_pos g1]
  · rw [if_neg g1]
    by_cases g2 : vcmp b0 b1 b2 c0 c1 c2 > 0
    · rw [if_pos g2]
    · rw [if_neg g2, decide_eq_true (ht (by omega) (by omega))]
end Go.Proofs.YtnedhbnbhedgeaaDoor.Val
namespace Go.Proofs.YtnedhbnbhedgeaaDoor.Pure
open Go.Proofs.YtnedhbnbhedgeaaDoor Go.Proofs.YtnedhbnbhedgeaaDoor.PAll Val
theorem ValueOrders : PAll.moultlaw1_ValueOrders.Pure := by
  intro s0 s1 s2 _ _ _
  refine lim_some (g := fun k => moultlaw1_ValueOrders.f k s0.f0 s0.f1 s0.f2 s1.f0 s1.f1 s1.f2 s2.f0 s2.f1 s2.f2) (show moultlaw1_ValueOrders.fL s0.f0 s0.f1 s0.f2 s1.f0 s1.f1 s1.f2 s2.f0 s2.f1 s2.f2 = some true from ?_)
  rw [moultlaw1_ValueOrders.fL_eq, shown_ev]
  simp only [Option.bind_some, if_true]
  have ht : moultlaw1_ValueOrders.j0L true true s0.f0 s0.f1 s0.f2 s1.f0 s1.f1 s1.f2 s2.f0 s2.f1 s2.f2 = some true := by
    rw [moultlaw1_ValueOrders.j0L_eq, if_pos rfl]
  have hf := orders_core s0.f0 s0.f1 s0.f2 s1.f0 s1.f1 s1.f2 s2.f0 s2.f1 s2.f2
  split
  · exact ht
  · split
    · exact ht
    · generalize decide ((s2.f2.size : Int) > 3000) = q
      cases q
      · exact hf
      · exact ht
end Go.Proofs.YtnedhbnbhedgeaaDoor.Pure
