/- MergeSees: what is seen at a number has each key once, is not Dead, and is at or below it; there is nothing newer at or below it: of any row, any number. No conditions. -/
import Derived.Test.YthdoanbadhfhjaaPh2
import Derived.Test.YthdoanbadhfhjaaLf
import Derived.Test.YthdoanbadhfhjaaQMergeSees
set_option linter.unusedVariables false
set_option linter.unusedSimpArgs false
namespace Go.Proofs.Ythdoanbadhfhjaa.Pure
open Go.RowKit Go.Proofs.Ythdoanbadhfhjaa.PAll Go.Proofs.Ythdoanbadhfhjaa Go.Proofs.Ythdoanbadhfhjaa.Mrg Go.Proofs.YthdoanbadhfhjaaW.PrintWords Go.Proofs.YthdoanbadhfhjaaW.PrintLast Go.Proofs.YthdoanbadhfhjaaW.PrintMore

theorem less_of_cmp : ∀ (a b : List UInt8), Lib.compareBytes a b < 0 → Op.bytesLess a b = true
  | [], [], h => by simp [Lib.compareBytes] at h
  | [], b :: y, h => by simp [Op.bytesLess]
  | a :: x, [], h => by simp [Lib.compareBytes] at h
  | a :: x, b :: y, h => by
    simp only [Lib.compareBytes] at h
    simp only [Op.bytesLess, Bool.or_eq_true, Bool.and_eq_true, decide_eq_true_eq, beq_iff_eq]
    split at h
    · rename_i h1; exact .inl h1
    · split at h
      · simp at h
      · rename_i h1 h2
        refine .inr ⟨?_, less_of_cmp x y h⟩
        exact UInt8.le_antisymm (UInt8.not_lt.mp h2) (UInt8.not_lt.mp h1)
theorem sees_key {a b : S36} (h : lt a b = true) (hk : a.f0 ≠ b.f0) : Op.bytesLess a.f0.toList b.f0.toList = true := by
  rw [ByteArray.toList_eq, ByteArray.toList_eq]
  refine less_of_cmp _ _ ?_
  rw [lt_iff] at h
  rcases h with h | h
  · exact h
  · exact absurd h.1 hk
theorem one_row2 {r : List (List S36)} (h : r.length = 1) : r = [rd_L4 r 0] := by
  obtain ⟨l, rfl⟩ := List.length_eq_one_iff.mp h
  rfl
theorem vis_once {l : List S36} (hl : Std l) {a : Int} {x y : S36} (hx : x ∈ vis l a) (hy : y ∈ vis l a) (hk : x.f0 = y.f0) : x = y := by
  have h1 := mem_vis.mp hx
  have h2 := mem_vis.mp hy
  refine std_one hl h1.1 h2.1 ⟨hk, ?_⟩
  have a1 := h1.2.1.2 y h2.1 hk.symm h2.2.1.1
  have a2 := h2.2.1.2 x h1.1 hk h1.2.1.1
  omega
theorem sees_end {r : List (List S36)} (hr : r = [rd_L4 r 0]) (hg : Mrg.Good (rd_L4 r 0)) (a : Int) (i : Nat) (hi : (vis (rd_L4 r 0) a).length ≤ i) : moultlaw12_MergeSees.l0L a r (vis (rd_L4 r 0) a) (i : Int) = some true := by
  have hgl := hg.2.1
  have hvl : (vis (rd_L4 r 0) a).length ≤ (rd_L4 r 0).length := List.length_filter_le _ _
  have hr1 : r.length = 1 := by rw [hr]; rfl
  rw [moultlaw12_MergeSees.l0L_eq, if_neg (by omega), pvis (std_vis hg.1 a) (by omega), vis_vis hg.1]
  simp only [Option.bind_some]
  rw [same_L _ (by omega)]
  simp only [Option.bind_some, if_true]
  rw [if_pos (by omega), pvis hg.1 (by omega)]
  have e : vis (rd_L4 r 0) (-1) = [] := by
    unfold vis
    rw [List.filter_eq_nil_iff]
    intro x hx
    rw [Bool.and_eq_true, nn_iff]
    intro h
    have := h.1.1
    have := (hg.2.2 x hx).2.1
    omega
  rw [e]
  rfl
theorem sees_l0 {r : List (List S36)} (hr : r = [rd_L4 r 0]) (hg : Mrg.Good (rd_L4 r 0)) (a : Int) : ∀ (d i : Nat), d = (vis (rd_L4 r 0) a).length - i → moultlaw12_MergeSees.l0L a r (vis (rd_L4 r 0) a) (i : Int) = some true := by
  have hgl := hg.2.1
  have hvl : (vis (rd_L4 r 0) a).length ≤ (rd_L4 r 0).length := List.length_filter_le _ _
  have hr1 : r.length = 1 := by rw [hr]; rfl
  have hsv := std_vis hg.1 a
  intro d
  induction d with
  | zero => intro i h1; exact sees_end hr hg a i (by omega)
  | succ d ih =>
    intro i h1
    have h3 : i < (vis (rd_L4 r 0) a).length := by omega
    have hm := mem_vis.mp (rd_mem h3)
    have hin : ∀ (c q : Nat), c = (rd_L4 r 0).length - q → moultlaw12_MergeSees.l1L a r (vis (rd_L4 r 0) a) (i : Int) (q : Int) = some true := by
      intro c
      induction c with
      | zero =>
        intro q h4
        rw [moultlaw12_MergeSees.l1L_eq, if_pos (by omega), if_neg (by omega), wsucc h3 (by omega)]
        exact ih (i + 1) (by omega)
      | succ c ihc =>
        intro q h4
        have h5 : q < (rd_L4 r 0).length := by omega
        have hgo := ihc (q + 1) (by omega)
        have hj : moultlaw12_MergeSees.j3L a r (vis (rd_L4 r 0) a) (i : Int) (q : Int) false = some true := by
          rw [moultlaw12_MergeSees.j3L_eq, if_neg (by simp), wsucc h5 (by omega)]
          exact hgo
        rw [moultlaw12_MergeSees.l1L_eq, if_pos (by omega), if_pos (by omega), if_pos (by omega), if_pos (by omega), if_pos (by omega)]
        split
        · rename_i hk
          rw [bytes_eq] at hk
          split
          · rename_i hgt
            have : decide ((rd_T36 (rd_L4 r 0) (q : Int)).f1 ≤ a) = false := by
              rw [decide_eq_false_iff_not]
              intro hle
              have := hm.2.1.2 _ (rd_mem h5) hk hle
              omega
            rw [this]
            exact hj
          · exact hj
        · exact hj
    have hhas : moultlaw12_has.fL r (rd_T36 (vis (rd_L4 r 0) a) (i : Int)).f0 (rd_T36 (vis (rd_L4 r 0) a) (i : Int)).f1 (rd_T36 (vis (rd_L4 r 0) a) (i : Int)).f2 (rd_T36 (vis (rd_L4 r 0) a) (i : Int)).f3 = some true := has_L (by omega) (fun l hl => by
      rw [hr] at hl
      rw [List.mem_singleton.mp hl]
      omega) (by
      rw [hr, List.flatten_cons, List.flatten_nil, List.append_nil]
      exact hm.1)
    have hj1 : moultlaw12_MergeSees.j1L a r (vis (rd_L4 r 0) a) (i : Int) (!true) = some true := by
      rw [moultlaw12_MergeSees.j1L_eq, if_neg (by simp)]
      exact hin _ 0 rfl
    rw [moultlaw12_MergeSees.l0L_eq, if_pos (by omega), if_pos (by omega), hm.2.2, if_neg (by simp), if_neg (by have := hm.2.1.1; omega)]
    rw [show (false : Bool) = (rd_T36 (vis (rd_L4 r 0) a) (i : Int)).f2 from hm.2.2.symm] at *
    by_cases c : i = 0
    · subst c
      rw [if_neg (by omega), hhas]
      exact hj1
    · rw [if_pos (by omega), wpred (by omega) (Nat.le_refl _) (by omega), if_pos (by omega), if_pos (by omega)]
      have hlt := std_get hsv (i := i - 1) (j := i) (by omega) h3
      rw [if_pos (sees_key hlt (fun hk => by
        have h6 := vis_once hg.1 (rd_mem (l := vis (rd_L4 r 0) a) (i := i - 1) (by omega)) (rd_mem h3) hk
        rw [h6] at hlt
        exact lt_irrefl _ hlt)), hhas]
      exact hj1
theorem MergeSees : moultlaw12_MergeSees.Pure := by
  intro l at_ _ _
  refine lim_some (g := fun k => moultlaw12_MergeSees.f k l at_) (show moultlaw12_MergeSees.fL l at_ = some true from ?_)
  rw [moultlaw12_MergeSees.fL_eq, shown_L]
  obtain ⟨r, b, e, h⟩ := rows_L [l]
  simp only [Option.bind_some, if_true]
  rw [e]
  simp only [Option.bind_some, if_true]
  by_cases hb : b = true
  · rw [if_pos hb]
    obtain ⟨h1, _, hg⟩ := h hb
    have hr : r = [rd_L4 r 0] := one_row2 (by simpa using h1)
    have hgood : Mrg.Good (rd_L4 r 0) := hg _ (by rw [hr]; simp [rd_L4])
    rw [if_pos (by simp at h1; omega), pvis hgood.1 (by have := hgood.2.1; omega)]
    simp only [Option.bind_some]
    exact sees_l0 hr hgood at_ _ 0 rfl
  · rw [if_neg hb]
end Go.Proofs.Ythdoanbadhfhjaa.Pure
