/- The plain laws of merge: the statements own newest. -/
import Derived.Test.YthdoanbadhfhjaaPk
import Derived.Test.YthdoanbadhfhjaaLn
set_option linter.unusedVariables false
set_option linter.unusedSimpArgs false
namespace Go.Proofs.Ythdoanbadhfhjaa.Mrg
open Go.RowKit Go.Proofs.Ythdoanbadhfhjaa.PAll Go.Proofs.Ythdoanbadhfhjaa Go.Proofs.YthdoanbadhfhjaaW.PrintWords Go.Proofs.YthdoanbadhfhjaaW.PrintLast Go.Proofs.YthdoanbadhfhjaaW.PrintMore

theorem newest_l {l : List S36} {e : S36} (a : Int) (hn : l.length < 100000) : ∀ (d i : Nat), d = l.length - i → moultlaw12_newest.l0L l a (i : Int) e.f0 e.f1 e.f2 e.f3 = some (nn (l.drop i) a e) := by
  intro d
  induction d with
  | zero =>
    intro i h1
    rw [moultlaw12_newest.l0L_eq, if_neg (by omega), List.drop_eq_nil_of_le (by omega)]
    congr 1
    refine bool_ext ?_
    rw [decide_eq_true_iff, nn_iff]
    exact ⟨fun h => ⟨h, fun x hx => by simp at hx⟩, fun h => h.1⟩
  | succ d ih =>
    intro i h1
    have h3 : i < l.length := by omega
    have e1 := ih (i + 1) (by omega)
    rw [moultlaw12_newest.l0L_eq, if_pos (by omega), if_pos (by omega), wsucc h3 hn, rd_drop h3]
    have skip : ¬ ((rd_T36 l (i : Int)).f0 = e.f0 ∧ (rd_T36 l (i : Int)).f1 ≤ a ∧ (rd_T36 l (i : Int)).f1 > e.f1) → nn (l.drop (i + 1)) a e = nn (rd_T36 l (i : Int) :: l.drop (i + 1)) a e := by
      intro c
      refine bool_ext ?_
      rw [nn_iff, nn_iff]
      refine ⟨fun h => ⟨h.1, fun x hx hk ha => ?_⟩, fun h => h.sub (fun x hx => List.mem_cons_of_mem _ hx)⟩
      rcases List.mem_cons.mp hx with rfl | hx
      · by_cases c2 : (rd_T36 l (i : Int)).f1 > e.f1
        · exact absurd ⟨hk, ha, c2⟩ c
        · omega
      · exact h.2 x hx hk ha
    split
    · rename_i h
      rw [bytes_eq] at h
      split
      · rename_i h2
        split
        · rename_i h4
          congr 1
          refine bool_ext ?_
          rw [nn_iff]
          refine ⟨fun h => (by cases h), fun h5 => ?_⟩
          have := h5.2 _ (List.mem_cons_self) h h2
          omega
        · rename_i h4
          rw [e1, skip (fun c => h4 c.2.2)]
      · rename_i h2
        rw [e1, skip (fun c => h2 c.2.1)]
    · rename_i h
      rw [bytes_eq] at h
      rw [e1, skip (fun c => h c.1)]
theorem newest_L {l : List S36} {e : S36} (a : Int) (hn : l.length < 100000) : moultlaw12_newest.fL l e.f0 e.f1 e.f2 e.f3 a = some (nn l a e) := by
  rw [moultlaw12_newest.fL_eq]
  exact newest_l a hn _ 0 rfl
end Go.Proofs.Ythdoanbadhfhjaa.Mrg
