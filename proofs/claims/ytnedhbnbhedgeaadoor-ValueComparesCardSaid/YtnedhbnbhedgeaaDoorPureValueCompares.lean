/- ValueCompares: the plain law. -/
import Derived.Test.YtnedhbnbhedgeaaDoorQValueCompares
import Derived.Test.YtnedhbnbhedgeaaDoorPv
import Derived.Test.YtnedhbnbhedgeaaDoorLb
set_option linter.unusedVariables false
set_option linter.unusedSimpArgs false
namespace Go.Proofs.YtnedhbnbhedgeaaDoor.Val
open Go.RowKit Go.Proofs.YtnedhbnbhedgeaaDoor Go.Proofs.YtnedhbnbhedgeaaDoor.PAll Go.Proofs.YtnedhbnbhedgeaaDoorW.PrintWords
theorem w64 {i : Int} (h0 : -9223372036854775808 ≤ i) (h1 : i ≤ 9223372036854775807) : wrap64 i = i := by unfold wrap64; omega
/-- The document's comparison of bytes, from a place on. -/
theorem rbytes (a b : ByteArray) (ha : a.size ≤ 140737488351232) (hb : b.size ≤ 140737488351232) : ∀ (n i : Nat), n = a.size - i → i ≤ a.size → i ≤ b.size → moultref1_Bytes.l0L a b (i : Int) = some (Lib.compareBytes (a.data.toList.drop i) (b.data.toList.drop i)) := by
  intro n
  induction n with
  | zero =>
    intro i hn hi hj
    have hi2 : i = a.size := by omega
    subst hi2
    rw [List.drop_eq_nil_of_le (by rw [Array.length_toList]; exact Nat.le_refl _)]
    rw [moultref1_Bytes.l0L_eq, if_neg (by omega), moultref1_Bytes.j1L_eq, if_neg (by simp)]
    by_cases h : a.size < b.size
    · rw [if_pos (by omega)]
      cases e : b.data.toList.drop a.size with
      | nil =>
        have := congrArg List.length e
        rw [List.length_drop, Array.length_toList, List.length_nil] at this
        have hs : b.data.size = b.size := rfl
        omega
      | cons x l => rfl
    · rw [if_neg (by omega), if_neg (by omega)]
      rw [List.drop_eq_nil_of_le (by rw [Array.length_toList]; show b.data.size ≤ a.size; have hs : b.data.size = b.size := rfl; omega)]
      rfl
  | succ n ih =>
    intro i hn hi hj
    have hia : i < a.size := by omega
    have has : a.data.size = a.size := rfl
    have hbs : b.data.size = b.size := rfl
    have ea : a.data.toList.drop i = a.data[i]'(by omega) :: a.data.toList.drop (i + 1) := by
      rw [List.drop_eq_getElem_cons (by rw [Array.length_toList]; omega)]; rfl
    rw [ea]
    by_cases hib : i < b.size
    · have eb : b.data.toList.drop i = b.data[i]'(by omega) :: b.data.toList.drop (i + 1) := by
        rw [List.drop_eq_getElem_cons (by rw [Array.length_toList]; omega)]; rfl
      rw [eb]
      have ih := ih (i + 1) (by omega) (by omega) (by omega)
      rw [moultref1_Bytes.l0L_eq, if_pos (by omega), moultref1_Bytes.j1L_eq, if_pos (by simp; omega), if_pos (by omega), if_pos (by omega), if_pos (by omega)]
      have va : bt a (i : Int) = ((a.data[i]'(by omega)).toNat : Int) := by
        simp [bt, ByteArray.get!, getElem!_pos, has, hia]; rfl
      have vb : bt b (i : Int) = ((b.data[i]'(by omega)).toNat : Int) := by
        simp [bt, ByteArray.get!, getElem!_pos, hbs, hib]; rfl
      rw [va, vb]
      simp only [Lib.compareBytes]
      by_cases h1 : a.data[i]'(by omega) < b.data[i]'(by omega)
      · rw [if_pos h1, if_pos (by have := UInt8.lt_iff_toNat_lt.mp h1; omega)]
      · rw [if_neg h1, if_neg (by intro h; exact h1 (UInt8.lt_iff_toNat_lt.mpr (by omega)))]
        by_cases h2 : b.data[i]'(by omega) < a.data[i]'(by omega)
        · rw [if_pos h2, if_pos (by have := UInt8.lt_iff_toNat_lt.mp h2; omega)]
        · rw [if_neg h2, if_neg (by intro h; exact h2 (UInt8.lt_iff_toNat_lt.mpr (by omega)))]
          rw [w64 (by omega) (by omega)]
          exact ih
    · rw [show b.data.toList.drop i = [] from List.drop_eq_nil_of_le (by rw [Array.length_toList]; omega)]
      rw [moultref1_Bytes.l0L_eq, if_pos (by omega), moultref1_Bytes.j1L_eq, if_neg (by simp; omega), if_neg (by omega), if_pos (by omega)]
      rfl
theorem ref_vcmp (a0 a1 : Int) (a2 : ByteArray) (b0 b1 : Int) (b2 : ByteArray) (ha : a2.size ≤ 140737488351232) (hb : b2.size ≤ 140737488351232) : moultref1_Compare.fL a0 a1 a2 b0 b1 b2 = some (vcmp a0 a1 a2 b0 b1 b2) := by
  have e1 : wrap64 (0 + 1) = 1 := by unfold wrap64; decide
  have e2 : wrap64 (1 + 1) = 2 := by unfold wrap64; decide
  have r0 : rd [a0, a1] 0 = a0 := rfl
  have r1 : rd [a0, a1] 1 = a1 := rfl
  have s0 : rd [b0, b1] 0 = b0 := rfl
  have s1 : rd [b0, b1] 1 = b1 := rfl
  have hla : (([a0, a1] : List Int).length : Int) = 2 := rfl
  have hlb : (([b0, b1] : List Int).length : Int) = 2 := rfl
  have hr := rbytes a2 b2 ha hb a2.size 0 (by omega) (by omega) (by omega)
  rw [List.drop_zero, List.drop_zero] at hr
  have l2 : moultref1_Compare.l0L [a0, a1] [b0, b1] 2 a0 a1 a2 b0 b1 b2 = some (Lib.compareBytes a2.data.toList b2.data.toList) := by
    rw [moultref1_Compare.l0L_eq, if_neg (by decide), moultref1_Bytes.fL_eq, show (0 : Int) = ((0 : Nat) : Int) from rfl, hr]
    rfl
  have l1 : moultref1_Compare.l0L [a0, a1] [b0, b1] 1 a0 a1 a2 b0 b1 b2 = some (if a1 < b1 then -1 else if a1 > b1 then 1 else Lib.compareBytes a2.data.toList b2.data.toList) := by
    rw [moultref1_Compare.l0L_eq, hla, hlb, r1, s1, e2, l2]
    by_cases h1 : a1 < b1
    · simp [h1]
    · by_cases h2 : b1 < a1 <;> simp [h1, h2]
  rw [moultref1_Compare.fL_eq, moultref1_Compare.l0L_eq, hla, hlb, r0, s0, e1, l1]
  unfold vcmp or3 cmp3
  by_cases h1 : a0 < b0
  · simp [h1]
  · by_cases h2 : b0 < a0
    · simp [h1, h2]
    · by_cases h3 : a1 < b1
      · simp [h1, h2, h3]
      · by_cases h4 : b1 < a1 <;> simp [h1, h2, h3, h4]
theorem compares_core (a0 a1 : Int) (a2 : ByteArray) (b0 b1 : Int) (b2 : ByteArray) (ha : a2.size ≤ 140737488351232) (hb : b2.size ≤ 140737488351232) : moultlaw1_ValueCompares.j0L true false a0 a1 a2 b0 b1 b2 = some true := by
  rw [moultlaw1_ValueCompares.j0L_eq, if_neg (by decide), vcmp_eq, ref_vcmp _ _ _ _ _ _ ha hb]
  simp
end Go.Proofs.YtnedhbnbhedgeaaDoor.Val
namespace Go.Proofs.YtnedhbnbhedgeaaDoor.Pure
open Go.Proofs.YtnedhbnbhedgeaaDoor Go.Proofs.YtnedhbnbhedgeaaDoor.PAll Val
theorem ValueCompares : PAll.moultlaw1_ValueCompares.Pure := by
  intro s0 s1 h0 h1
  refine lim_some (g := fun k => moultlaw1_ValueCompares.f k s0.f0 s0.f1 s0.f2 s1.f0 s1.f1 s1.f2) (show moultlaw1_ValueCompares.fL s0.f0 s0.f1 s0.f2 s1.f0 s1.f1 s1.f2 = some true from ?_)
  rw [moultlaw1_ValueCompares.fL_eq, shown_ev]
  simp only [Option.bind_some, if_true]
  have ht : moultlaw1_ValueCompares.j0L true true s0.f0 s0.f1 s0.f2 s1.f0 s1.f1 s1.f2 = some true := by
    rw [moultlaw1_ValueCompares.j0L_eq, if_pos rfl]
  have hf := compares_core s0.f0 s0.f1 s0.f2 s1.f0 s1.f1 s1.f2 h0.2.2 h1.2.2
  split
  · exact ht
  · generalize decide ((s1.f2.size : Int) > 3000) = q
    cases q
    · exact hf
    · exact ht
end Go.Proofs.YtnedhbnbhedgeaaDoor.Pure
