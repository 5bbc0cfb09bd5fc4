/- MergePlays: rows as one, what is seen of it, and what is needed of it, is as the chapter says: of any rows, any number, any numbers. No conditions. -/
import Derived.Test.YthdoanbadhfhjaaPk
import Derived.Test.YthdoanbadhfhjaaPr
import Derived.Test.YthdoanbadhfhjaaLp
import Derived.Test.YthdoanbadhfhjaaQMergePlays
set_option linter.unusedVariables false
set_option linter.unusedSimpArgs false
namespace Go.Proofs.Ythdoanbadhfhjaa.Pure
open Go.RowKit Go.Proofs.Ythdoanbadhfhjaa.PAll Go.Proofs.Ythdoanbadhfhjaa Go.Proofs.Ythdoanbadhfhjaa.Mrg Go.Proofs.YthdoanbadhfhjaaW.PrintWords Go.Proofs.YthdoanbadhfhjaaW.PrintLast Go.Proofs.YthdoanbadhfhjaaW.PrintMore

theorem MergePlays : moultlaw12_MergePlays.Pure := by
  intro L at_ shots last _ _ _
  refine lim_some (g := fun k => moultlaw12_MergePlays.f k L at_ shots last) (show moultlaw12_MergePlays.fL L at_ shots last = some true from ?_)
  rw [moultlaw12_MergePlays.fL_eq, shown_L]
  obtain ⟨r, b, e, h⟩ := rows_L L
  simp only [Option.bind_some, if_true]
  rw [e]
  simp only [Option.bind_some]
  have no : moultlaw12_MergePlays.j0L at_ shots last true r true = some true := by rw [moultlaw12_MergePlays.j0L_eq, if_pos rfl]
  by_cases hb : b = true
  · rw [if_pos hb]
    obtain ⟨_, h8, hg⟩ := h hb
    by_cases hs : (shots.length : Int) > 20
    · rw [decide_eq_true hs, no]
    · rw [decide_eq_false hs, moultlaw12_MergePlays.j0L_eq, if_neg (by simp)]
      have hf : ∀ x ∈ r.flatten, Fit x := fun x hx => by
        obtain ⟨l, hl, hx⟩ := List.mem_flatten.mp hx
        exact ((hg l hl).2.2 x hx).fit
      have hn := flat_len hg h8
      have hrl := fold_length r.flatten []
      simp only [List.length_nil] at hrl
      have hrow : (row r.flatten).length < 100000 := by unfold row; omega
      have hbig : ∀ x ∈ row r.flatten, x.f1 ≤ 4611686018427387904 := fun x hx => by
        obtain ⟨l, hl, hx⟩ := List.mem_flatten.mp (row_mem hx)
        have := ((hg l hl).2.2 x hx).2.2
        omega
      rw [merge_L (by omega) (fun l hl => (hg l hl).1) (by omega), rmerge_L (by omega) hf (by omega)]
      simp only [Option.bind_some]
      rw [same_L _ hrow]
      simp only [Option.bind_some, if_true]
      have hv : (vis (row r.flatten) at_).length ≤ (row r.flatten).length := List.length_filter_le _ _
      have ht := thin_length (row r.flatten) shots last
      rw [pvis (std_row _) hrow, rvis (std_row _) hrow]
      simp only [Option.bind_some]
      rw [same_L _ (by omega)]
      simp only [Option.bind_some, if_true]
      rw [pthin (std_row _) hrow hbig shots (by omega) last, rthin (std_row _) hrow shots (by omega) last]
      simp only [Option.bind_some]
      rw [same_L _ (by omega)]
      rfl
  · rw [if_neg hb, no]
end Go.Proofs.Ythdoanbadhfhjaa.Pure
