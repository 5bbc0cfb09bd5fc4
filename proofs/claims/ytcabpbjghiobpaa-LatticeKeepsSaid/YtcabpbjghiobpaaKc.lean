/- The plain laws of the lattice's values: what Right, Widen and Narrow answer, the program's and the document's. -/
import Derived.Test.YtcabpbjghiobpaaPAllx9
import Derived.Test.YtcabpbjghiobpaaKb
set_option linter.unusedSimpArgs false
namespace Go.Proofs.Ytcabpbjghiobpaa.Lat
open Go.RowKit Go.Proofs.Ytcabpbjghiobpaa.PAll Go.Proofs.Ytcabpbjghiobpaa Go.Proofs.YtcabpbjghiobpaaW.PrintWords Go.Proofs.YtcabpbjghiobpaaW.PrintLast Go.Proofs.YtcabpbjghiobpaaW.PrintMore

theorem shown_eq (k : Nat) : moultlaw2_shown.f (k + 40) = some true :=
  at_rounds (fun k => moultlaw2_shown.mono k) (k := 40) (by omega) (by decide +kernel)

def rightB (c n : Int) (s : ByteArray) : Bool :=
  if c = 1 then decide (0 ≤ n ∧ n ≤ 1) && (s.toList == ([] : List UInt8)) else if c = 2 then decide (-32768 ≤ n ∧ n ≤ 32767) && (s.toList == ([] : List UInt8)) else if c = 3 then decide (-2147483648 ≤ n ∧ n ≤ 2147483647) && (s.toList == ([] : List UInt8))
  else if c = 4 then s.toList == ([] : List UInt8) else if c = 5 then decide (n = 0) && decide ((s.size : Int) ≤ 32) else if c = 6 then decide (n = 0) && decide ((s.size : Int) ≤ 1000) else false
theorem within_eq (c n : Int) (s : ByteArray) (a b : Int) : value_within.f c n s a b = some (decide (a ≤ n ∧ n ≤ b) && (s.toList == ([] : List UInt8))) := by
  unfold value_within.f
  by_cases h : s.toList = ([] : List UInt8)
  · rw [if_pos h, h]
    by_cases h2 : n ≥ a
    · rw [if_pos h2]
      simp [h2]
    · rw [if_neg h2]
      have : ¬ (a ≤ n ∧ n ≤ b) := by omega
      simp [this]
  · rw [if_neg h]
    simp [h]
theorem right_eq (c n : Int) (s : ByteArray) : value_Right.f c n s = some (rightB c n s) := by
  unfold value_Right.f rightB
  simp only [within_eq, Option.bind_some]
  by_cases h1 : c = 1
  · simp [h1]
  by_cases h2 : c = 2
  · simp [h2]
  by_cases h3 : c = 3
  · simp [h3]
  by_cases h4 : c = 4
  · simp [h4]
  by_cases h5 : c = 5
  · by_cases hn : n = 0 <;> simp [h5, hn]
  by_cases h6 : c = 6
  · by_cases hn : n = 0 <;> simp [h6, hn]
  simp [h1, h2, h3, h4, h5, h6]
theorem zero_eq (c : Int) : ∃ x y z, value_Zero.f c = some (x, y, z, decide (1 ≤ c ∧ c ≤ 6)) := by
  unfold value_Zero.f
  by_cases h1 : c < 1
  · rw [if_pos h1]
    exact ⟨_, _, _, by congr 4; symm; rw [decide_eq_false_iff_not]; omega⟩
  · rw [if_neg h1]
    by_cases h2 : c > 6
    · rw [if_pos h2]
      exact ⟨_, _, _, by congr 4; symm; rw [decide_eq_false_iff_not]; omega⟩
    · rw [if_neg h2]
      exact ⟨_, _, _, by congr 4; symm; rw [decide_eq_true_iff]; omega⟩
def kindB (c : Int) : Bool := decide (1 ≤ c ∧ c ≤ 6)
def takeR (c n : Int) (s : ByteArray) (q : Int) (may : Bool) : Int × Int × ByteArray × Int :=
  if rightB c n s = true ∧ kindB q = true then (if may = true then (if rightB q n s = true then (q, n, s, 0) else (0, 0, ⟨#[]⟩, 2)) else (0, 0, ⟨#[]⟩, 12)) else (0, 0, ⟨#[]⟩, 1)
theorem take_eq (k : Nat) (c n : Int) (s : ByteArray) (q : Int) (may : Bool) : lattice_take.f (k + 1) c n s q may = some (takeR c n s q may) := by
  unfold lattice_take.f
  obtain ⟨x, y, z, h⟩ := zero_eq q
  rw [h, right_eq]
  simp only [Option.bind_some, lattice_take.j0, right_eq]
  unfold takeR kindB
  cases h1 : rightB c n s <;> cases h2 : decide (1 ≤ q ∧ q ≤ 6) <;> cases may <;> simp
  cases h3 : rightB q n s <;> simp
theorem widen_eq (k : Nat) (c n : Int) (s : ByteArray) (q : Int) : lattice_Widen.f (k + 10) c n s q = some (takeR c n s q (belowB c q)) := by
  unfold lattice_Widen.f
  rw [below_eq]
  simp only [Option.bind_some]
  rw [show k + 10 = (k + 9) + 1 from rfl, take_eq]
  rfl
theorem narrow_eq (k : Nat) (c n : Int) (s : ByteArray) (q : Int) : lattice_Narrow.f (k + 10) c n s q = some (takeR c n s q (belowB q c)) := by
  unfold lattice_Narrow.f
  rw [below_eq]
  simp only [Option.bind_some]
  rw [show k + 10 = (k + 9) + 1 from rfl, take_eq]
  rfl
theorem right_kind {c n : Int} {s : ByteArray} (h : rightB c n s = true) : 1 ≤ c ∧ c ≤ 6 := by
  unfold rightB at h
  by_cases h1 : c = 1; · omega
  by_cases h2 : c = 2; · omega
  by_cases h3 : c = 3; · omega
  by_cases h4 : c = 4; · omega
  by_cases h5 : c = 5; · omega
  by_cases h6 : c = 6; · omega
  simp [h1, h2, h3, h4, h5, h6] at h
/-- What is right of a kind is right of each kind above it. -/
theorem right_up {c q n : Int} {s : ByteArray} (h : rightB c n s = true) (hb : belowB c q = true) : rightB q n s = true := by
  unfold belowB sameB at hb
  simp only [Bool.and_eq_true, decide_eq_true_eq] at hb
  obtain ⟨h1 | h1, h2⟩ := hb
  · rcases in4 ⟨h1.1, h1.2.1⟩ with rfl | rfl | rfl | rfl <;> rcases in4 h1.2.2 with rfl | rfl | rfl | rfl <;>
      first
      | exact h
      | (exfalso; omega)
      | (simp [rightB] at h ⊢; refine ⟨?_, h.2⟩; omega)
      | (simp [rightB] at h ⊢; exact h.2)
  · rcases in2 ⟨h1.1, h1.2.1⟩ with rfl | rfl <;> rcases in2 h1.2.2 with rfl | rfl <;>
      first
      | exact h
      | (exfalso; omega)
      | (simp [rightB] at h ⊢; refine ⟨h.1, ?_⟩; omega)
/-- What a value is, taken to a kind: itself of that kind, or nothing and an error. -/
theorem takeR_cases (c n : Int) (s : ByteArray) (q : Int) (may : Bool) :
    (takeR c n s q may = (q, n, s, 0) ∧ rightB c n s = true ∧ kindB q = true ∧ may = true ∧ rightB q n s = true) ∨
    (takeR c n s q may = (0, 0, ⟨#[]⟩, 1)) ∨ (takeR c n s q may = (0, 0, ⟨#[]⟩, 12)) ∨
    (takeR c n s q may = (0, 0, ⟨#[]⟩, 2) ∧ may = true ∧ rightB q n s = false) := by
  unfold takeR
  by_cases h : rightB c n s = true ∧ kindB q = true
  · rw [if_pos h]
    cases may with
    | false => rw [if_neg (by simp)]; exact .inr (.inr (.inl rfl))
    | true =>
      rw [if_pos rfl]
      cases h2 : rightB q n s with
      | false => rw [if_neg (by simp)]; exact .inr (.inr (.inr ⟨rfl, rfl, rfl⟩))
      | true => rw [if_pos rfl]; exact .inl ⟨rfl, h.1, h.2, rfl, rfl⟩
  · rw [if_neg h]
    exact .inr (.inl rfl)
end Go.Proofs.Ytcabpbjghiobpaa.Lat
