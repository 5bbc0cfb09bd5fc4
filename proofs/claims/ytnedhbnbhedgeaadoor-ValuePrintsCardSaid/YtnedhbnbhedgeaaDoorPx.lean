/- The plain laws of value: Read, from what it reads and what that prints. -/
import Derived.Test.YtnedhbnbhedgeaaDoorPw
set_option linter.unusedVariables false
set_option linter.unusedSimpArgs false
namespace Go.Proofs.YtnedhbnbhedgeaaDoor.Val
open Go.RowKit Go.Proofs.YtnedhbnbhedgeaaDoor Go.Proofs.YtnedhbnbhedgeaaDoor.PAll Go.Proofs.YtnedhbnbhedgeaaDoorW.PrintWords Go.Lib
theorem wide_of_wf {n : Int} (h : (Lit.int .i64 n).wf = true) : Wide n := by
  have e1 : IntKind.i64.min = -9223372036854775808 := rfl
  have e2 : IntKind.i64.max = 9223372036854775807 := rfl
  simp [Lit.wf, e1, e2] at h
  exact h
theorem wide0 : Wide 0 := ⟨by decide, by decide⟩
theorem atoiN_wide (l : List UInt8) : Wide (atoiN l).1 := by
  unfold atoiN
  cases h : atoiAll l with
  | ok v => exact atoiAll_bounds h
  | range =>
    show Wide (atoiSat l)
    unfold atoiSat Wide
    split <;> omega
  | _ => exact wide0
theorem rdl_wide (l : List UInt8) : Wide (rdl l).2.1 := by
  cases l with
  | nil => exact ⟨by decide, by decide⟩
  | cons c t =>
    simp only [rdl]
    split
    · exact ⟨by decide, by decide⟩
    · split
      · exact ⟨by decide, by decide⟩
      · split
        · split
          · exact wide0
          · exact wide0
        · exact atoiN_wide _
/-- What Read answers. -/
def rdAns (l : List UInt8) : Int × Int × ByteArray × Int :=
  if (rdl l).2.2.2 = true ∧ pr (rdl l).1 (rdl l).2.1 (rdl l).2.2.1.data.toList = l then ((rdl l).1, (rdl l).2.1, (rdl l).2.2.1, 0) else (0, 0, ⟨#[]⟩, 8)
theorem read_eq (s : ByteArray) (hs : s.size ≤ 1000000) : value_Read.f s = some (rdAns s.data.toList) := by
  unfold value_Read.f value_read.f rdAns
  rw [if_pos hs]
  simp only [Option.bind_some, print_eq _ _ _ (rdl_wide s.data.toList)]
  by_cases h : (rdl s.data.toList).2.2.2 = true
  · rw [if_pos h, toL, toL]
    by_cases h2 : pr (rdl s.data.toList).1 (rdl s.data.toList).2.1 (rdl s.data.toList).2.2.1.data.toList = s.data.toList
    · rw [if_pos (by simpa using h2), if_pos ⟨h, h2⟩]
    · rw [if_neg (by simpa using h2), if_neg (fun x => h2 x.2)]
  · rw [if_neg h, if_neg (fun x => h x.1)]
/-- What is printed of a right value is read back. -/
theorem rdAns_prl (k n : Int) (s : List UInt8) (hn : Wide n) (hr : rgt k n s = true) : rdAns (prl k n s) = (k, n, ⟨s.toArray⟩, 0) := by
  unfold rdAns
  rw [rdl_prl k n s hn hr]
  simp only
  rw [if_pos ⟨trivial, by unfold pr; rw [if_pos (by simpa using hr)]⟩]
theorem rdAns_nil : rdAns [] = (0, 0, ⟨#[]⟩, 8) := by
  unfold rdAns
  rw [if_neg (by intro h; exact absurd h.1 (by simp [rdl]))]
/-- What is read is right, and printed as the text. -/
theorem rdAns_ok (l : List UInt8) (h : (rdAns l).2.2.2 = 0) : rdAns l = ((rdl l).1, (rdl l).2.1, (rdl l).2.2.1, 0) ∧ rgt (rdl l).1 (rdl l).2.1 (rdl l).2.2.1.data.toList = true ∧ pr (rdl l).1 (rdl l).2.1 (rdl l).2.2.1.data.toList = l := by
  unfold rdAns at h ⊢
  by_cases h1 : (rdl l).2.2.2 = true ∧ pr (rdl l).1 (rdl l).2.1 (rdl l).2.2.1.data.toList = l
  · rw [if_pos h1]
    refine ⟨rfl, ?_, h1.2⟩
    cases h2 : rgt (rdl l).1 (rdl l).2.1 (rdl l).2.2.1.data.toList with
    | true => rfl
    | false =>
      have h3 := h1.2
      unfold pr at h3
      rw [h2, if_neg (by decide)] at h3
      subst h3
      exact absurd h1.1 (by simp [rdl])
  · rw [if_neg h1] at h
    exact absurd h (by decide)
theorem rdAns_bad (l : List UInt8) (h : (rdAns l).2.2.2 ≠ 0) : rdAns l = (0, 0, ⟨#[]⟩, 8) := by
  unfold rdAns at h ⊢
  split
  · rename_i h1
    rw [if_pos h1] at h
    exact absurd rfl h
  · rfl
theorem beqL (a b : List UInt8) : (a == b) = decide (a = b) := by rw [Bool.eq_iff_iff]; simp
end Go.Proofs.YtnedhbnbhedgeaaDoor.Val
