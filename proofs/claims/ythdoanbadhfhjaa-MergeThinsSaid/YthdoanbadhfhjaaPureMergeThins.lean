/- MergeThins: what is needed is seen as all of it was, at each of the numbers that are asked for, and at the end: of any row, any numbers, with the last or not. No conditions. -/
import Derived.Test.YthdoanbadhfhjaaPh2
import Derived.Test.YthdoanbadhfhjaaLd
import Derived.Test.YthdoanbadhfhjaaQMergeThins
set_option linter.unusedVariables false
set_option linter.unusedSimpArgs false
namespace Go.Proofs.Ythdoanbadhfhjaa.Pure
open Go.RowKit Go.Proofs.Ythdoanbadhfhjaa.PAll Go.Proofs.Ythdoanbadhfhjaa Go.Proofs.Ythdoanbadhfhjaa.Mrg Go.Proofs.YthdoanbadhfhjaaW.PrintWords Go.Proofs.YthdoanbadhfhjaaW.PrintLast Go.Proofs.YthdoanbadhfhjaaW.PrintMore

theorem one_row {r : List (List S36)} (h : r.length = 1) : r = [rd_L4 r 0] := by
  obtain ⟨l, rfl⟩ := List.length_eq_one_iff.mp h
  rfl
theorem vis_length (l : List S36) (a : Int) : (vis l a).length ≤ l.length := List.length_filter_le _ _
theorem thins_l1 {r : List (List S36)} (hr : r = [rd_L4 r 0]) (hg : Mrg.Good (rd_L4 r 0)) (shots : List Int) (hs : shots.length ≤ 20) (last : Bool) (t : List S36) (ht : t = thin (rd_L4 r 0) shots last) : ∀ (d i : Nat), d = shots.length - i → moultlaw12_MergeThins.l1L shots last r t (i : Int) = some true := by
  have hst : Std t := by rw [ht]; exact std_thin hg.1 _ _
  have hgl := hg.2.1
  have htl : t.length ≤ 60 := by rw [ht]; exact Nat.le_trans (thin_length _ _ _) hg.2.1
  have hbig : ∀ x ∈ t, x.f1 ≤ 4611686018427387904 := fun x hx => by
    have := (hg.2.2 x (thin_sub (ht ▸ hx))).2.2
    omega
  have hr1 : r.length = 1 := by rw [hr]; rfl
  intro d
  induction d with
  | zero =>
    intro i h1
    rw [moultlaw12_MergeThins.l1L_eq, if_neg (by omega), pthin hst (by omega) hbig shots (by omega) last, ht, thin_thin hg.1]
    simp only [Option.bind_some]
    rw [same_L _ (by rw [← ht]; omega)]
    simp only [Option.bind_some, if_true]
    rw [pthin Std.nil (by simp) (by simp) shots (by omega) last]
    simp [thin, lst]
  | succ d ih =>
    intro i h1
    have h3 : i < shots.length := by omega
    have hm : rd shots (i : Int) ∈ shots := by rw [rdi_get h3]; exact List.getElem_mem h3
    rw [moultlaw12_MergeThins.l1L_eq, if_pos (by omega), if_pos (by omega), pvis hst (by omega), ht, vis_thin hg.1 shots last (.inl hm), ← ht]
    simp only [Option.bind_some]
    rw [if_pos (by omega), pvis hg.1 (by omega)]
    simp only [Option.bind_some]
    rw [same_L _ (by have := vis_length (rd_L4 r 0) (rd shots (i : Int)); omega)]
    simp only [Option.bind_some, if_true]
    rw [wsucc h3 (by omega)]
    exact ih (i + 1) (by omega)
theorem thins_l0 {r : List (List S36)} (hr : r = [rd_L4 r 0]) (hg : Mrg.Good (rd_L4 r 0)) (shots : List Int) (hs : shots.length ≤ 20) (last : Bool) (t : List S36) (ht : t = thin (rd_L4 r 0) shots last) : ∀ (d i : Nat), d = t.length - i → moultlaw12_MergeThins.l0L shots last r t (i : Int) = some true := by
  have hgl := hg.2.1
  have htl : t.length ≤ 60 := by rw [ht]; exact Nat.le_trans (thin_length _ _ _) hg.2.1
  have hr1 : r.length = 1 := by rw [hr]; rfl
  intro d
  induction d with
  | zero =>
    intro i h1
    rw [moultlaw12_MergeThins.l0L_eq, if_neg (by omega)]
    exact thins_l1 hr hg shots hs last t ht _ 0 rfl
  | succ d ih =>
    intro i h1
    have h3 : i < t.length := by omega
    rw [moultlaw12_MergeThins.l0L_eq, if_pos (by omega), if_pos (by omega), has_L (by omega) (fun l hl => by
      rw [hr] at hl
      rw [List.mem_singleton.mp hl]
      omega) (by
      rw [hr, List.flatten_cons, List.flatten_nil, List.append_nil]
      have hq := rd_mem h3
      rw [ht] at hq
      rw [ht]
      exact thin_sub hq)]
    simp only [Option.bind_some, if_true]
    rw [wsucc h3 (by omega)]
    exact ih (i + 1) (by omega)
theorem MergeThins : moultlaw12_MergeThins.Pure := by
  intro l shots last _ _
  refine lim_some (g := fun k => moultlaw12_MergeThins.f k l shots last) (show moultlaw12_MergeThins.fL l shots last = some true from ?_)
  rw [moultlaw12_MergeThins.fL_eq, shown_L]
  obtain ⟨r, b, e, h⟩ := rows_L [l]
  simp only [Option.bind_some, if_true]
  rw [e]
  simp only [Option.bind_some]
  have no : moultlaw12_MergeThins.j0L shots last true r true = some true := by rw [moultlaw12_MergeThins.j0L_eq, if_pos rfl]
  by_cases hb : b = true
  · rw [if_pos hb]
    obtain ⟨h1, _, hg⟩ := h hb
    have hr : r = [rd_L4 r 0] := one_row (by simpa using h1)
    have hgood : Mrg.Good (rd_L4 r 0) := hg _ (by rw [hr]; simp [rd_L4])
    have hgl := hgood.2.1
    have htl := thin_length (rd_L4 r 0) shots last
    by_cases hs : (shots.length : Int) > 20
    · rw [decide_eq_true hs, no]
    · rw [decide_eq_false hs, moultlaw12_MergeThins.j0L_eq, if_neg (by simp), if_pos (by simp at h1; omega), pthin hgood.1 (by omega) (fun x hx => by have := (hgood.2.2 x hx).2.2; omega) shots (by omega) last]
      simp only [Option.bind_some]
      have hst := std_thin hgood.1 shots last
      rw [pvis hst (by omega), pvis hgood.1 (by omega), vis_thin hgood.1 shots last (.inr ⟨fun x hx => by have := (hgood.2.2 x hx).2.2; omega, fun x hx => by have := (hgood.2.2 x hx).2.2; omega⟩)]
      simp only [Option.bind_some]
      rw [same_L _ (by have := vis_length (rd_L4 r 0) 1125899906842624; omega)]
      simp only [Option.bind_some, if_true]
      rw [if_neg (by omega), sorted_std hst (by omega)]
      simp only [Option.bind_some]
      rw [moultlaw12_MergeThins.j1L_eq, if_neg (by simp)]
      exact thins_l0 hr hgood shots (by omega) last _ rfl _ 0 rfl
  · rw [if_neg hb, no]
end Go.Proofs.Ythdoanbadhfhjaa.Pure
