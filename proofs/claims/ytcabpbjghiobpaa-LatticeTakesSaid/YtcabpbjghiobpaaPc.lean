/- The plain laws of the lattice's values: what Right, Widen and Narrow answer, the program's and the document's. -/
import Derived.Test.YtcabpbjghiobpaaPAllx4
import Derived.Test.YtcabpbjghiobpaaPAllx5
import Derived.Test.YtcabpbjghiobpaaPb
set_option linter.unusedSimpArgs false
namespace Go.Proofs.Ytcabpbjghiobpaa.Lat
open Go.RowKit Go.Proofs.Ytcabpbjghiobpaa.PAll Go.Proofs.Ytcabpbjghiobpaa Go.Proofs.YtcabpbjghiobpaaW.PrintWords Go.Proofs.YtcabpbjghiobpaaW.PrintLast Go.Proofs.YtcabpbjghiobpaaW.PrintMore

theorem shown_eq (k : Nat) : moultlaw2_shown.f (k + 40) = some true :=
  at_rounds (fun k => moultlaw2_shown.mono k) (k := 40) (by omega) (by decide +kernel)

def rightB (c n : Int) (s : ByteArray) : Bool :=
  if c = 1 then decide (0 ≤ n ∧ n ≤ 1) && (s.toList == ([] : List UInt8)) else if c = 2 then decide (-32768 ≤ n ∧ n ≤ 32767) && (s.toList == ([] : List UInt8)) else if c = 3 then decide (-2147483648 ≤ n ∧ n ≤ 2147483647) && (s.toList == ([] : List UInt8))
  else if c = 4 then s.toList == ([] : List UInt8) else if c = 5 then decide (n = 0) && decide ((s.size : Int) ≤ 32) else if c = 6 then decide (n = 0) && decide ((s.size : Int) ≤ 1000) else false
theorem within_eq (c n : Int) (s : ByteArray) (a b : Int) : value_within.f c n s a b = some (decide (a ≤ n ∧ n ≤ b) && (s.toList == ([] : List UInt8))) := by
  unfold value_within.f
  by_cases h : s.toList = ([] : List UInt8)
  · rw [if_pos h, h]
    by_cases h2 : n ≥ a
    · rw [if_pos h2]
      simp [h2]
    · rw [if_neg h2]
      have : ¬ (a ≤ n ∧ n ≤ b) := by omega
      simp [this]
  · rw [if_neg h]
    simp [h]
theorem right_eq (c n : Int) (s : ByteArray) : value_Right.f c n s = some (rightB c n s) := by
  unfold value_Right.f rightB
  simp only [within_eq, Option.bind_some]
  by_cases h1 : c = 1
  · simp [h1]
  by_cases h2 : c = 2
  · simp [h2]
  by_cases h3 : c = 3
  · simp [h3]
  by_cases h4 : c = 4
  · simp [h4]
  by_cases h5 : c = 5
  · by_cases hn : n = 0 <;> simp [h5, hn]
  by_cases h6 : c = 6
  · by_cases hn : n = 0 <;> simp [h6, hn]
  simp [h1, h2, h3, h4, h5, h6]
theorem rright_eq (c n : Int) (s : ByteArray) : moultref1_Right.f c n s = some (rightB c n s) := by
  unfold moultref1_Right.f rightB
  by_cases h1 : c = 1
  · simp only [h1, if_true]
    by_cases n0 : n = 0
    · simp [n0]
    · by_cases n1 : n = 1
      · simp [n1]
      · rw [if_neg n0, if_neg n1]
        have : ¬ (0 ≤ n ∧ n ≤ 1) := by omega
        simp [this]
  by_cases h2 : c = 2
  · simp only [h2]
    by_cases a : n ≥ -32768
    · by_cases b : n ≤ 32767
      · have : -32768 ≤ n ∧ n ≤ 32767 := by omega
        simp [a, b, this]
      · have : ¬ (-32768 ≤ n ∧ n ≤ 32767) := by omega
        simp [a, b, this]
    · have : ¬ (-32768 ≤ n ∧ n ≤ 32767) := by omega
      simp [a, this]
  by_cases h3 : c = 3
  · simp only [h3]
    by_cases a : n ≥ -2147483648
    · by_cases b : n ≤ 2147483647
      · have : -2147483648 ≤ n ∧ n ≤ 2147483647 := by omega
        simp [a, b, this]
      · have : ¬ (-2147483648 ≤ n ∧ n ≤ 2147483647) := by omega
        simp [a, b, this]
    · have : ¬ (-2147483648 ≤ n ∧ n ≤ 2147483647) := by omega
      simp [a, this]
  by_cases h4 : c = 4
  · simp [h4]
  by_cases h5 : c = 5
  · by_cases hn : n = 0 <;> simp [h5, hn]
  by_cases h6 : c = 6
  · by_cases hn : n = 0 <;> simp [h6, hn]
  simp [h1, h2, h3, h4, h5, h6]
theorem zero_eq (c : Int) : ∃ x y z, value_Zero.f c = some (x, y, z, decide (1 ≤ c ∧ c ≤ 6)) := by
  unfold value_Zero.f
  by_cases h1 : c < 1
  · rw [if_pos h1]
    exact ⟨_, _, _, by congr 4; symm; rw [decide_eq_false_iff_not]; omega⟩
  · rw [if_neg h1]
    by_cases h2 : c > 6
    · rw [if_pos h2]
      exact ⟨_, _, _, by congr 4; symm; rw [decide_eq_false_iff_not]; omega⟩
    · rw [if_neg h2]
      exact ⟨_, _, _, by congr 4; symm; rw [decide_eq_true_iff]; omega⟩
def kindB (c : Int) : Bool := decide (1 ≤ c ∧ c ≤ 6)
def takeR (c n : Int) (s : ByteArray) (q : Int) (may : Bool) : Int × Int × ByteArray × Int :=
  if rightB c n s = true ∧ kindB q = true then (if may = true then (if rightB q n s = true then (q, n, s, 0) else (0, 0, ⟨#[]⟩, 2)) else (0, 0, ⟨#[]⟩, 12)) else (0, 0, ⟨#[]⟩, 1)
theorem take_eq (k : Nat) (c n : Int) (s : ByteArray) (q : Int) (may : Bool) : lattice_take.f (k + 1) c n s q may = some (takeR c n s q may) := by
  unfold lattice_take.f
  obtain ⟨x, y, z, h⟩ := zero_eq q
  rw [h, right_eq]
  simp only [Option.bind_some, lattice_take.j0, right_eq]
  unfold takeR kindB
  cases h1 : rightB c n s <;> cases h2 : decide (1 ≤ q ∧ q ≤ 6) <;> cases may <;> simp
  cases h3 : rightB q n s <;> simp
theorem widen_eq (k : Nat) (c n : Int) (s : ByteArray) (q : Int) : lattice_Widen.f (k + 10) c n s q = some (takeR c n s q (belowB c q)) := by
  unfold lattice_Widen.f
  rw [below_eq]
  simp only [Option.bind_some]
  rw [show k + 10 = (k + 9) + 1 from rfl, take_eq]
  rfl
theorem narrow_eq (k : Nat) (c n : Int) (s : ByteArray) (q : Int) : lattice_Narrow.f (k + 10) c n s q = some (takeR c n s q (belowB q c)) := by
  unfold lattice_Narrow.f
  rw [below_eq]
  simp only [Option.bind_some]
  rw [show k + 10 = (k + 9) + 1 from rfl, take_eq]
  rfl
theorem rkind_eq (c : Int) : moultref2_kind.f c = some (kindB c) := by
  unfold moultref2_kind.f kindB
  by_cases h : c ≥ 1
  · rw [if_pos h]
    congr 1
    rw [decide_eq_decide]
    omega
  · rw [if_neg h]
    congr 1
    symm
    rw [decide_eq_false_iff_not]
    omega
theorem rbelow_eq (a b : Int) : moultref2_Below.f a b = some (belowB a b) := by
  unfold moultref2_Below.f
  rw [rkind_eq]
  simp only [Option.bind_some]
  rw [rkind_eq]
  simp only [Option.bind_some]
  unfold kindB belowB sameB
  by_cases h1 : 1 ≤ a ∧ a ≤ 6
  · by_cases h2 : 1 ≤ b ∧ b ≤ 6
    · rw [decide_eq_true h1, decide_eq_true h2]
      simp only [if_true]
      by_cases h3 : a ≤ 4 <;> by_cases h4 : b ≤ 4 <;> simp [h3, h4] <;> omega
    · rw [decide_eq_true h1, decide_eq_false h2]
      simp only [if_true, Bool.false_eq_true, if_false]
      congr 1
      symm
      rw [Bool.and_eq_false_iff, decide_eq_false_iff_not]
      exact .inl (by omega)
  · rw [decide_eq_false h1]
    simp only [Bool.false_eq_true, if_false]
    congr 1
    symm
    rw [Bool.and_eq_false_iff, decide_eq_false_iff_not]
    exact .inl (by omega)
theorem right_kind {c n : Int} {s : ByteArray} (h : rightB c n s = true) : 1 ≤ c ∧ c ≤ 6 := by
  unfold rightB at h
  by_cases h1 : c = 1; · omega
  by_cases h2 : c = 2; · omega
  by_cases h3 : c = 3; · omega
  by_cases h4 : c = 4; · omega
  by_cases h5 : c = 5; · omega
  by_cases h6 : c = 6; · omega
  simp [h1, h2, h3, h4, h5, h6] at h
/-- What is right of a kind is right of each kind above it. -/
theorem right_up {c q n : Int} {s : ByteArray} (h : rightB c n s = true) (hb : belowB c q = true) : rightB q n s = true := by
  unfold belowB sameB at hb
  simp only [Bool.and_eq_true, decide_eq_true_eq] at hb
  obtain ⟨h1 | h1, h2⟩ := hb
  · rcases in4 ⟨h1.1, h1.2.1⟩ with rfl | rfl | rfl | rfl <;> rcases in4 h1.2.2 with rfl | rfl | rfl | rfl <;>
      first
      | exact h
      | (exfalso; omega)
      | (simp [rightB] at h ⊢; refine ⟨?_, h.2⟩; omega)
      | (simp [rightB] at h ⊢; exact h.2)
  · rcases in2 ⟨h1.1, h1.2.1⟩ with rfl | rfl <;> rcases in2 h1.2.2 with rfl | rfl <;>
      first
      | exact h
      | (exfalso; omega)
      | (simp [rightB] at h ⊢; refine ⟨h.1, ?_⟩; omega)
def wideR (c n : Int) (s : ByteArray) (q : Int) : Int × Int × ByteArray × Int :=
  if rightB c n s = true ∧ kindB q = true then (if belowB c q = true then (q, n, s, 0) else (0, 0, ⟨#[]⟩, 12)) else (0, 0, ⟨#[]⟩, 1)
theorem takeR_wide (c n : Int) (s : ByteArray) (q : Int) : takeR c n s q (belowB c q) = wideR c n s q := by
  unfold takeR wideR
  by_cases h : rightB c n s = true ∧ kindB q = true
  · rw [if_pos h, if_pos h]
    by_cases hb : belowB c q = true
    · rw [if_pos hb, if_pos hb, if_pos (right_up h.1 hb)]
    · rw [if_neg hb, if_neg hb]
  · rw [if_neg h, if_neg h]
theorem rwiden_eq (k : Nat) (c n : Int) (s : ByteArray) (q : Int) : moultref2_Widen.f (k + 1) c n s q = some (wideR c n s q) := by
  unfold moultref2_Widen.f
  rw [rright_eq, rkind_eq]
  simp only [Option.bind_some, moultref2_Widen.j0, rbelow_eq]
  unfold wideR
  cases h1 : rightB c n s <;> cases h2 : kindB q <;> simp
  cases h3 : belowB c q <;> simp
theorem rnarrow_eq (k : Nat) (c n : Int) (s : ByteArray) (q : Int) : moultref2_Narrow.f (k + 1) c n s q = some (takeR c n s q (belowB q c)) := by
  unfold moultref2_Narrow.f
  rw [rright_eq, rkind_eq]
  simp only [Option.bind_some, moultref2_Narrow.j0, rbelow_eq, rright_eq]
  unfold takeR
  cases h1 : rightB c n s <;> cases h2 : kindB q <;> simp
  cases h3 : belowB q c <;> simp
  cases h4 : rightB q n s <;> simp
end Go.Proofs.Ytcabpbjghiobpaa.Lat
