/- The plain laws of the lattice's kinds: the document's joins, meets and kinds above, and two rows held together. -/
import Derived.Test.YtcabpbjghiobpaaPc
set_option linter.unusedSimpArgs false
namespace Go.Proofs.Ytcabpbjghiobpaa.Lat
open Go.RowKit Go.Proofs.Ytcabpbjghiobpaa.PAll Go.Proofs.Ytcabpbjghiobpaa Go.Proofs.YtcabpbjghiobpaaW.PrintWords Go.Proofs.YtcabpbjghiobpaaW.PrintLast Go.Proofs.YtcabpbjghiobpaaW.PrintMore

theorem below_apart {a b : Int} (hs : sameB a b = false) (i : Int) : belowB a i = true → belowB b i = true → False := by
  unfold sameB at hs
  unfold belowB sameB
  simp only [decide_eq_false_iff_not, Bool.and_eq_true, decide_eq_true_eq] at hs ⊢
  omega
theorem below_apart' {a b : Int} (hs : sameB a b = false) (i : Int) : belowB i a = true → belowB i b = true → False := by
  unfold sameB at hs
  unfold belowB sameB
  simp only [decide_eq_false_iff_not, Bool.and_eq_true, decide_eq_true_eq] at hs ⊢
  omega
theorem rjoin_none {a b : Int} (hs : sameB a b = false) : ∀ (d k : Nat) (i : Int), 1 ≤ i → 7 - i = d → moultref2_Join.l0 (k + d + 1) a b i = some (0, false)
  | 0, k, i, h0, hd => by
    simp only [moultref2_Join.l0]
    rw [if_neg (by omega)]
  | d + 1, k, i, h0, hd => by
    have ih := rjoin_none hs d k (i + 1) (by omega) (by omega)
    rw [show k + d + 1 = k + (d + 1) from rfl] at ih
    generalize k + (d + 1) = q at ih ⊢
    simp only [moultref2_Join.l0]
    rw [if_pos (by omega), rbelow_eq, rbelow_eq]
    simp only [Option.bind_some]
    have hw : wrap64 (i + 1) = i + 1 := by unfold wrap64; omega
    rw [hw, ih]
    cases h1 : belowB a i <;> cases h2 : belowB b i <;> simp
    exact (below_apart hs i h1 h2).elim
theorem rmeet_none {a b : Int} (hs : sameB a b = false) : ∀ (d k : Nat) (i : Int), i ≤ 6 → i = d → moultref2_Meet.l0 (k + d + 1) a b i = some (0, false)
  | 0, k, i, h0, hd => by
    simp only [moultref2_Meet.l0]
    rw [if_neg (by omega)]
  | d + 1, k, i, h0, hd => by
    have ih := rmeet_none hs d k (i - 1) (by omega) (by omega)
    rw [show k + d + 1 = k + (d + 1) from rfl] at ih
    generalize k + (d + 1) = q at ih ⊢
    simp only [moultref2_Meet.l0]
    rw [if_pos (by omega), rbelow_eq, rbelow_eq]
    simp only [Option.bind_some]
    have hw : wrap64 (i - 1) = i - 1 := by unfold wrap64; omega
    rw [hw, ih]
    cases h1 : belowB i a <;> cases h2 : belowB i b <;> simp
    exact (below_apart' hs i h1 h2).elim
theorem same_cases {a b : Int} (h : sameB a b = true) : ((a = 1 ∨ a = 2 ∨ a = 3 ∨ a = 4) ∧ (b = 1 ∨ b = 2 ∨ b = 3 ∨ b = 4)) ∨ ((a = 5 ∨ a = 6) ∧ (b = 5 ∨ b = 6)) := by
  unfold sameB at h
  have := of_decide_eq_true h
  omega
theorem rjoin_eq (k : Nat) (a b : Int) : moultref2_Join.f (k + 7) a b = some (if sameB a b = true then (max a b, true) else (0, false)) := by
  cases e : sameB a b with
  | false => exact rjoin_none e 6 k 1 (by omega) (by omega)
  | true =>
    rcases same_cases e with ⟨h1, h2⟩ | ⟨h1, h2⟩
    · rcases h1 with rfl | rfl | rfl | rfl <;> rcases h2 with rfl | rfl | rfl | rfl <;> simp [moultref2_Join.f, moultref2_Join.l0, rbelow_eq, belowB, sameB, wrap64] <;> rfl
    · rcases h1 with rfl | rfl <;> rcases h2 with rfl | rfl <;> simp [moultref2_Join.f, moultref2_Join.l0, rbelow_eq, belowB, sameB, wrap64] <;> rfl
theorem rmeet_eq (k : Nat) (a b : Int) : moultref2_Meet.f (k + 7) a b = some (if sameB a b = true then (min a b, true) else (0, false)) := by
  cases e : sameB a b with
  | false => exact rmeet_none e 6 k 6 (by omega) (by omega)
  | true =>
    rcases same_cases e with ⟨h1, h2⟩ | ⟨h1, h2⟩
    · rcases h1 with rfl | rfl | rfl | rfl <;> rcases h2 with rfl | rfl | rfl | rfl <;> simp [moultref2_Meet.f, moultref2_Meet.l0, rbelow_eq, belowB, sameB, wrap64] <;> rfl
    · rcases h1 with rfl | rfl <;> rcases h2 with rfl | rfl <;> simp [moultref2_Meet.f, moultref2_Meet.l0, rbelow_eq, belowB, sameB, wrap64] <;> rfl
def aboveL (a : Int) : List Int := if a = 1 then [1, 2, 3, 4] else if a = 2 then [2, 3, 4] else if a = 3 then [3, 4] else if a = 4 then [4] else if a = 5 then [5, 6] else if a = 6 then [6] else []
theorem rabove_none {a : Int} (hs : ¬ (1 ≤ a ∧ a ≤ 6)) : ∀ (d k : Nat) (i : Int), 1 ≤ i → 7 - i = d → moultref2_Above.l0 (k + d + 1) a [] i = some []
  | 0, k, i, h0, hd => by
    simp only [moultref2_Above.l0]
    rw [if_neg (by omega)]
  | d + 1, k, i, h0, hd => by
    have ih := rabove_none hs d k (i + 1) (by omega) (by omega)
    have hb : belowB a i = false := by
      unfold belowB sameB
      rw [Bool.and_eq_false_iff, decide_eq_false_iff_not]
      exact .inl (by omega)
    rw [show k + d + 1 = k + (d + 1) from rfl] at ih
    generalize k + (d + 1) = q at ih ⊢
    simp only [moultref2_Above.l0]
    rw [if_pos (by omega), rbelow_eq, hb]
    simp only [Option.bind_some]
    have hw : wrap64 (i + 1) = i + 1 := by unfold wrap64; omega
    rw [hw, ih]
    rfl
theorem rabove_eq (k : Nat) (a : Int) : moultref2_Above.f (k + 7) a = some (aboveL a) := by
  by_cases h : 1 ≤ a ∧ a ≤ 6
  · have : a = 1 ∨ a = 2 ∨ a = 3 ∨ a = 4 ∨ a = 5 ∨ a = 6 := by omega
    rcases this with rfl | rfl | rfl | rfl | rfl | rfl <;> simp [moultref2_Above.f, moultref2_Above.l0, rbelow_eq, belowB, sameB, wrap64, aboveL]
  · have : aboveL a = [] := by
      unfold aboveL
      rw [if_neg (by omega), if_neg (by omega), if_neg (by omega), if_neg (by omega), if_neg (by omega), if_neg (by omega)]
    rw [this]
    exact rabove_none h 6 k 1 (by omega) (by omega)
theorem same_self {l : List Int} (hl : l.length ≤ 1000) : ∀ (d k : Nat) (i : Int), 0 ≤ i → (l.length : Int) - i = d → moultlaw2_same.l0 (k + d + 1) l l i = some true
  | 0, k, i, h0, hd => by
    simp only [moultlaw2_same.l0]
    rw [if_neg (by omega)]
  | d + 1, k, i, h0, hd => by
    have ih := same_self hl d k (i + 1) (by omega) (by omega)
    rw [show k + d + 1 = k + (d + 1) from rfl] at ih
    generalize k + (d + 1) = q at ih ⊢
    simp only [moultlaw2_same.l0]
    rw [if_pos (by omega), if_pos h0, if_pos (by omega), if_pos trivial]
    have hw : wrap64 (i + 1) = i + 1 := by unfold wrap64; omega
    rw [hw, ih]
theorem same_above (k : Nat) (a : Int) : moultlaw2_same.f (k + 10) (aboveL a) (aboveL a) = some true := by
  have hl : (aboveL a).length ≤ 4 := by
    unfold aboveL
    repeat' split
    all_goals decide
  unfold moultlaw2_same.f
  rw [if_pos rfl]
  have := same_self (l := aboveL a) (by omega) (aboveL a).length (k + 9 - (aboveL a).length) 0 (by omega) (by omega)
  rwa [show k + 9 - (aboveL a).length + (aboveL a).length + 1 = k + 10 from by omega] at this
theorem above_eqL (k : Nat) (a : Int) : lattice_Above.f (k + 10) a = some (aboveL a) := above_eq k a
/-- What a value is, taken to a kind: itself of that kind, or nothing and an error. -/
theorem takeR_cases (c n : Int) (s : ByteArray) (q : Int) (may : Bool) :
    (takeR c n s q may = (q, n, s, 0) ∧ rightB c n s = true ∧ kindB q = true ∧ may = true ∧ rightB q n s = true) ∨
    (takeR c n s q may = (0, 0, ⟨#[]⟩, 1)) ∨ (takeR c n s q may = (0, 0, ⟨#[]⟩, 12)) ∨
    (takeR c n s q may = (0, 0, ⟨#[]⟩, 2) ∧ may = true ∧ rightB q n s = false) := by
  unfold takeR
  by_cases h : rightB c n s = true ∧ kindB q = true
  · rw [if_pos h]
    cases may with
    | false => rw [if_neg (by simp)]; exact .inr (.inr (.inl rfl))
    | true =>
      rw [if_pos rfl]
      cases h2 : rightB q n s with
      | false => rw [if_neg (by simp)]; exact .inr (.inr (.inr ⟨rfl, rfl, rfl⟩))
      | true => rw [if_pos rfl]; exact .inl ⟨rfl, h.1, h.2, rfl, rfl⟩
  · rw [if_neg h]
    exact .inr (.inl rfl)
theorem takeR_ok {c n : Int} {s : ByteArray} {q : Int} {may : Bool} (h1 : rightB c n s = true) (h2 : kindB q = true) (h3 : may = true) (h4 : rightB q n s = true) : takeR c n s q may = (q, n, s, 0) := by
  unfold takeR
  rw [if_pos ⟨h1, h2⟩, if_pos h3, if_pos h4]
theorem kind_of_right {c n : Int} {s : ByteArray} (h : rightB c n s = true) : kindB c = true := decide_eq_true (right_kind h)
theorem below_trans {a b c : Int} (h1 : belowB a b = true) (h2 : belowB b c = true) : belowB a c = true := by
  unfold belowB sameB at h1 h2 ⊢
  simp only [Bool.and_eq_true, decide_eq_true_eq] at h1 h2 ⊢
  omega
end Go.Proofs.Ytcabpbjghiobpaa.Lat
