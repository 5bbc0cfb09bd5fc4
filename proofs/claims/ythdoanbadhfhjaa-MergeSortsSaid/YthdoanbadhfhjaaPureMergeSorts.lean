/- MergeSorts: what is merged is sorted, and has each entry of each row, and none else: of any rows, any row. No conditions. -/
import Derived.Test.YthdoanbadhfhjaaPs
import Derived.Test.YthdoanbadhfhjaaLb
import Derived.Test.YthdoanbadhfhjaaQMergeSorts
set_option linter.unusedVariables false
set_option linter.unusedSimpArgs false
namespace Go.Proofs.Ythdoanbadhfhjaa.Pure
open Go.RowKit Go.Proofs.Ythdoanbadhfhjaa.PAll Go.Proofs.Ythdoanbadhfhjaa Go.Proofs.Ythdoanbadhfhjaa.Mrg Go.Proofs.YthdoanbadhfhjaaW.PrintWords Go.Proofs.YthdoanbadhfhjaaW.PrintLast Go.Proofs.YthdoanbadhfhjaaW.PrintMore

theorem sorts_l2 {r : List (List S36)} {m : List S36} (hL : r.length < 100000) (hn : ∀ l ∈ r, l.length < 100000) (hm : m.length < 100000) (hk : ∀ x ∈ r.flatten, ∃ y ∈ m, eqk y x) : ∀ (d i : Nat), d = r.length - i → moultlaw12_MergeSorts.l1L r m (i : Int) = some true := by
  intro d
  induction d with
  | zero =>
    intro i h1
    rw [moultlaw12_MergeSorts.l1L_eq, if_neg (by omega)]
  | succ d ih =>
    intro i h1
    have h3 : i < r.length := by omega
    have h4 : rd_L4 r (i : Int) ∈ r := by rw [rd4_get h3]; exact List.getElem_mem h3
    have h5 := hn _ h4
    have key : ∀ (c q : Nat), c = (rd_L4 r (i : Int)).length - q → moultlaw12_MergeSorts.l2L r m (i : Int) (q : Int) = some true := by
      intro c
      induction c with
      | zero =>
        intro q h6
        rw [moultlaw12_MergeSorts.l2L_eq, if_pos (by omega), if_pos (by omega), if_neg (by omega), wsucc h3 hL]
        exact ih (i + 1) (by omega)
      | succ c ihc =>
        intro q h6
        have h7 : q < (rd_L4 r (i : Int)).length := by omega
        rw [moultlaw12_MergeSorts.l2L_eq, if_pos (by omega), if_pos (by omega), if_pos (by omega), if_pos (by omega), known_L hm (hk _ (List.mem_flatten.mpr ⟨_, h4, rd_mem h7⟩))]
        simp only [Option.bind_some, if_true]
        rw [wsucc h7 h5]
        exact ihc (q + 1) (by omega)
    rw [moultlaw12_MergeSorts.l1L_eq, if_pos (by omega)]
    exact key _ 0 rfl
theorem sorts_l0 {r : List (List S36)} {m : List S36} (hL : r.length < 100000) (hn : ∀ l ∈ r, l.length < 100000) (hm : m.length < 100000) (hs : ∀ x ∈ m, x ∈ r.flatten) (hk : ∀ x ∈ r.flatten, ∃ y ∈ m, eqk y x) : ∀ (d i : Nat), d = m.length - i → moultlaw12_MergeSorts.l0L r m (i : Int) = some true := by
  intro d
  induction d with
  | zero =>
    intro i h1
    rw [moultlaw12_MergeSorts.l0L_eq, if_neg (by omega)]
    exact sorts_l2 hL hn hm hk _ 0 rfl
  | succ d ih =>
    intro i h1
    have h3 : i < m.length := by omega
    rw [moultlaw12_MergeSorts.l0L_eq, if_pos (by omega), if_pos (by omega), has_L hL hn (hs _ (rd_mem h3))]
    simp only [Option.bind_some, if_true]
    rw [wsucc h3 hm]
    exact ih (i + 1) (by omega)
theorem MergeSorts : moultlaw12_MergeSorts.Pure := by
  intro L R _ _
  refine lim_some (g := fun k => moultlaw12_MergeSorts.f k L R) (show moultlaw12_MergeSorts.fL L R = some true from ?_)
  rw [moultlaw12_MergeSorts.fL_eq, shown_L]
  obtain ⟨r, b, e, h⟩ := rows_L L
  obtain ⟨b2, e2, h2⟩ := small_L R
  simp only [Option.bind_some, if_true]
  rw [e]
  simp only [Option.bind_some]
  rw [e2]
  simp only [Option.bind_some]
  have no : moultlaw12_MergeSorts.j0L R true r true = some true := by rw [moultlaw12_MergeSorts.j0L_eq, if_pos rfl]
  by_cases hb : b = true
  · rw [if_pos hb]
    obtain ⟨_, h8, hg⟩ := h hb
    by_cases hs : b2 = true
    · obtain ⟨h60, hsm⟩ := h2 hs
      rw [hs, moultlaw12_MergeSorts.j0L_eq, if_neg (by simp)]
      obtain ⟨c, c1, c2, c3⟩ := sorted_L (l := R) (by omega)
      rw [c1, c2 (fun x hx => (hsm x hx).fit)]
      simp only [Option.bind_some]
      rw [if_neg (by simp)]
      have hn := flat_len hg h8
      have hrl := fold_length r.flatten []
      simp only [List.length_nil] at hrl
      have hrow : (row r.flatten).length < 100000 := by unfold row; omega
      rw [merge_L (by omega) (fun l hl => (hg l hl).1) (by omega)]
      simp only [Option.bind_some]
      rw [sorted_std (std_row _) hrow]
      simp only [Option.bind_some, if_true]
      exact sorts_l0 (by omega) (fun l hl => by have := (hg l hl).2.1; omega) hrow (fun x hx => row_mem hx) (fun x hx => by
        obtain ⟨y, hy, he⟩ := fst1_ex hx
        exact ⟨y, (mem_row _ _).mpr hy, he⟩) _ 0 rfl
    · rw [show (!b2) = true by simpa using hs, no]
  · rw [if_neg hb, no]
end Go.Proofs.Ythdoanbadhfhjaa.Pure
