/- The plain laws of value: the comparison, the chapter's examples. -/
import Derived.Test.YtnedhbnbhedgeaaDoorLa
import Derived.Lib.Bytealg
set_option linter.unusedVariables false
set_option linter.unusedSimpArgs false
namespace Go.Proofs.YtnedhbnbhedgeaaDoor.Val
open Go.RowKit Go.Proofs.YtnedhbnbhedgeaaDoor Go.Proofs.YtnedhbnbhedgeaaDoor.PAll Go.Proofs.YtnedhbnbhedgeaaDoorW.PrintWords
theorem cmp_or : ∀ (a b : List UInt8), Lib.compareBytes a b = -1 ∨ Lib.compareBytes a b = 0 ∨ Lib.compareBytes a b = 1
  | [], [] => by simp [Lib.compareBytes]
  | [], _ :: _ => by simp [Lib.compareBytes]
  | _ :: _, [] => by simp [Lib.compareBytes]
  | a :: l, b :: m => by
    have ih := cmp_or l m
    simp only [Lib.compareBytes]
    split
    · simp
    · split
      · simp
      · exact ih
theorem cmp_zero : ∀ (a b : List UInt8), Lib.compareBytes a b = 0 ↔ a = b
  | [], [] => by simp [Lib.compareBytes]
  | [], _ :: _ => by simp [Lib.compareBytes]
  | _ :: _, [] => by simp [Lib.compareBytes]
  | a :: l, b :: m => by
    have ih := cmp_zero l m
    simp only [Lib.compareBytes, List.cons.injEq]
    split
    · rename_i h
      constructor
      · intro e; cases e
      · rintro ⟨rfl, _⟩; exact absurd h (UInt8.lt_irrefl a)
    · rename_i h
      split
      · rename_i h2
        constructor
        · intro e; cases e
        · rintro ⟨rfl, _⟩; exact absurd h2 (UInt8.lt_irrefl a)
      · rename_i h2
        have : a = b := UInt8.le_antisymm (UInt8.not_lt.mp h2) (UInt8.not_lt.mp h)
        rw [ih]
        exact ⟨fun e => ⟨this, e⟩, fun e => e.2⟩
theorem cmp_self (a : List UInt8) : Lib.compareBytes a a = 0 := (cmp_zero a a).mpr rfl
theorem cmp_flip : ∀ (a b : List UInt8), Lib.compareBytes a b = - Lib.compareBytes b a
  | [], [] => by simp [Lib.compareBytes]
  | [], _ :: _ => by simp [Lib.compareBytes]
  | _ :: _, [] => by simp [Lib.compareBytes]
  | a :: l, b :: m => by
    have ih := cmp_flip l m
    simp only [Lib.compareBytes]
    by_cases h : a < b
    · have h2 : ¬ b < a := fun h2 => absurd (UInt8.lt_trans h h2) (UInt8.lt_irrefl a)
      simp [h, h2]
    · by_cases h2 : b < a
      · simp [h, h2]
      · simp [h, h2, ih]
theorem cmp_trans : ∀ (a b c : List UInt8), Lib.compareBytes a b < 0 → Lib.compareBytes b c < 0 → Lib.compareBytes a c < 0
  | [], [], _ => by simp [Lib.compareBytes]
  | [], _ :: _, [] => by simp [Lib.compareBytes]
  | [], _ :: _, _ :: _ => by simp [Lib.compareBytes]
  | _ :: _, [], _ => by simp [Lib.compareBytes]
  | _ :: _, _ :: _, [] => by simp [Lib.compareBytes]
  | a :: l, b :: m, c :: n => by
    have ih := cmp_trans l m n
    simp only [Lib.compareBytes]
    intro h1 h2
    by_cases x1 : a < b
    · by_cases x2 : b < c
      · rw [if_pos (UInt8.lt_trans x1 x2)]; decide
      · rw [if_neg x2] at h2
        by_cases x3 : c < b
        · rw [if_pos x3] at h2; exact absurd h2 (by decide)
        · have : b = c := UInt8.le_antisymm (UInt8.not_lt.mp x3) (UInt8.not_lt.mp x2)
          subst this
          rw [if_pos x1]; decide
    · rw [if_neg x1] at h1
      by_cases x3 : b < a
      · rw [if_pos x3] at h1; exact absurd h1 (by decide)
      · have : a = b := UInt8.le_antisymm (UInt8.not_lt.mp x3) (UInt8.not_lt.mp x1)
        subst this
        rw [if_neg x3] at h1
        by_cases x2 : a < c
        · rw [if_pos x2]; decide
        · rw [if_neg x2] at h2 ⊢
          by_cases x4 : c < a
          · rw [if_pos x4] at h2; exact absurd h2 (by decide)
          · rw [if_neg x4] at h2 ⊢
            exact ih h1 h2

def cmp3 (x y : Int) : Int := if x < y then -1 else if x > y then 1 else 0
theorem cmp3_eq (x y : Int) : cmp_Compare_int.f x y = some (cmp3 x y) := by
  simp only [cmp_Compare_int.f, cmp_isNaN_int.f, Option.bind_some, bne_self_eq_false, cmp3]
  by_cases h1 : x < y
  · simp [h1]
  · by_cases h2 : y < x <;> simp [h1, h2]
def or3 (x y z : Int) : Int := if x = 0 then (if y = 0 then z else y) else x
theorem or3_eq (x y z : Int) : cmp_Or_int.fL [x, y, z] = some (or3 x y z) := by
  have e1 : wrap64 (0 + 1) = 1 := by unfold wrap64; decide
  have e2 : wrap64 (1 + 1) = 2 := by unfold wrap64; decide
  have e3 : wrap64 (2 + 1) = 3 := by unfold wrap64; decide
  have r0 : rd [x, y, z] 0 = x := rfl
  have r1 : rd [x, y, z] 1 = y := rfl
  have r2 : rd [x, y, z] 2 = z := rfl
  have hl : (([x, y, z] : List Int).length : Int) = 3 := rfl
  have l3 : cmp_Or_int.l0L 0 [x, y, z] 3 3 = some 0 := by rw [cmp_Or_int.l0L_eq]; simp
  have l2 : cmp_Or_int.l0L 0 [x, y, z] 3 2 = some z := by
    rw [cmp_Or_int.l0L_eq, r2, hl, e3, l3]
    by_cases h : z = 0 <;> simp [h]
  have l1 : cmp_Or_int.l0L 0 [x, y, z] 3 1 = some (if y = 0 then z else y) := by
    rw [cmp_Or_int.l0L_eq, r1, hl, e2, l2]
    by_cases h : y = 0 <;> simp [h]
  rw [cmp_Or_int.fL_eq, hl, cmp_Or_int.l0L_eq, r0, hl, e1, l1]
  unfold or3
  by_cases h : x = 0 <;> simp [h]
def vcmp (a0 a1 : Int) (a2 : ByteArray) (b0 b1 : Int) (b2 : ByteArray) : Int := or3 (cmp3 a0 b0) (cmp3 a1 b1) (Lib.compareBytes a2.data.toList b2.data.toList)
theorem vcmp_eq (a0 a1 : Int) (a2 : ByteArray) (b0 b1 : Int) (b2 : ByteArray) : value_Compare.fL a0 a1 a2 b0 b1 b2 = some (vcmp a0 a1 a2 b0 b1 b2) := by
  rw [value_Compare.fL_eq, cmp3_eq, cmp3_eq]
  simp only [Option.bind_some, strings_Compare.f, or3_eq, vcmp]
/-! The chapter's examples. -/
theorem sp1 : value_Print.f 1 1 ⟨#[]⟩ = some ⟨#[121, 101, 115]⟩ := by kernel_rfl
theorem sp2 : value_Print.f 2 (-5) ⟨#[]⟩ = some ⟨#[45, 53, 115]⟩ := by kernel_rfl
theorem sp3 : value_Print.f 4 7 ⟨#[]⟩ = some ⟨#[55]⟩ := by kernel_rfl
theorem sp4 : value_Print.f 5 0 ⟨#[97, 39, 98]⟩ = some ⟨#[39, 97, 92, 39, 98, 39]⟩ := by kernel_rfl
theorem sp5 : value_Print.f 6 0 ⟨#[10]⟩ = some ⟨#[34, 92, 120, 48, 97, 34]⟩ := by kernel_rfl
theorem sr1 : value_Read.f ⟨#[55, 48, 48, 48, 48, 115]⟩ = some (0, 0, ⟨#[]⟩, 8) := by kernel_rfl
theorem sr2 : value_Read.f ⟨#[45, 48]⟩ = some (0, 0, ⟨#[]⟩, 8) := by kernel_rfl
theorem sr3 : value_Read.f ⟨#[39, 97, 39]⟩ = some (5, 0, ⟨#[97]⟩, 0) := by kernel_rfl
theorem shown_j1 : moultlaw1_shown.j1L true true = some true := by
  rw [moultlaw1_shown.j1L_eq, sr1, sr2, sr3]
  simp only [Option.bind_some, vcmp_eq]
  kernel_rfl
theorem shown_ev : moultlaw1_shown.fL = some true := by
  rw [moultlaw1_shown.fL_eq, sp1]
  simp only [Option.bind_some]
  rw [if_pos (by decide +kernel), sp2]
  simp only [Option.bind_some]
  rw [if_pos (by decide +kernel), sp3]
  simp only [Option.bind_some]
  rw [moultlaw1_shown.j0L_eq, sp4]
  simp only [Option.bind_some]
  rw [if_pos (by decide +kernel), sp5]
  simp only [Option.bind_some]
  rw [show ((⟨#[55]⟩ : ByteArray).toList == ([55] : List UInt8)) = true from by decide +kernel, show ((⟨#[34, 92, 120, 48, 97, 34]⟩ : ByteArray).toList == ([34, 92, 120, 48, 97, 34] : List UInt8)) = true from by decide +kernel]
  exact shown_j1
end Go.Proofs.YtnedhbnbhedgeaaDoor.Val
