/- MergeNeeds: each entry that is left of a row is its key's newest one, or the newest one at or below a number that is asked for; with the last asked for no key's last one is Dead: of any row, any numbers. No conditions. -/
import Derived.Test.YthdoanbadhfhjaaPn
import Derived.Test.YthdoanbadhfhjaaLc
import Derived.Test.YthdoanbadhfhjaaQMergeNeeds
set_option linter.unusedVariables false
set_option linter.unusedSimpArgs false
namespace Go.Proofs.Ythdoanbadhfhjaa.Pure
open Go.RowKit Go.Proofs.Ythdoanbadhfhjaa.PAll Go.Proofs.Ythdoanbadhfhjaa Go.Proofs.Ythdoanbadhfhjaa.Mrg Go.Proofs.YthdoanbadhfhjaaW.PrintWords Go.Proofs.YthdoanbadhfhjaaW.PrintLast Go.Proofs.YthdoanbadhfhjaaW.PrintMore

theorem good_one {r : List (List S36)} (h : r.length = 1) : r = [rd_L4 r 0] := by
  obtain ⟨l, rfl⟩ := List.length_eq_one_iff.mp h
  rfl
theorem nn_small {l : List S36} (hl : ∀ x ∈ l, Sm x) {x : S36} (hx : x ∈ l) {s : Int} (hs : 1099511627776 ≤ s) (h : nn l 4611686018427387904 x = true) : nn l s x = true := by
  rw [nn_iff] at h ⊢
  have := (hl x hx).2.2
  exact ⟨by omega, fun y hy hk ha => h.2 y hy hk (by have := (hl y hy).2.2; omega)⟩
theorem needs_l {r : List (List S36)} (hr : 0 < r.length) (hg : Mrg.Good (rd_L4 r 0)) (shots : List Int) (hs : shots.length ≤ 20) (last : Bool) (t : List S36) (ht : t = thin (rd_L4 r 0) shots last) : ∀ (d i : Nat), d = t.length - i → moultlaw12_MergeNeeds.l0L shots last r t (i : Int) = some true := by
  have hst : Std t := by rw [ht]; exact std_thin hg.1 _ _
  have htl : t.length ≤ 60 := by rw [ht]; exact Nat.le_trans (thin_length _ _ _) hg.2.1
  have hin : ∀ x ∈ t, x ∈ rd_L4 r 0 ∧ need (rd_L4 r 0) shots x = true := fun x hx => (mem_thin.mp (ht ▸ hx)).1
  have hend : last = true → ∀ i : Nat, i < t.length → (∀ (_ : i + 1 < t.length), (rd_T36 t ((i + 1 : Nat) : Int)).f0 ≠ (rd_T36 t (i : Int)).f0) → (rd_T36 t (i : Int)).f2 = false := by
    intro hl i hi hne
    have hm := rd_mem hi
    rw [ht, mem_thin] at hm
    obtain ⟨z, hz, hzk, hzl, hzd⟩ := hm.2 hl
    rw [← ht] at hzk hzl
    have hzt : z ∈ t := by rw [ht, mem_thin]; exact ⟨List.mem_filter.mp hz, fun _ => ⟨z, hz, rfl, Int.le_refl _, hzd⟩⟩
    obtain ⟨j, hj, rfl⟩ := mem_rd hzt
    rcases Nat.lt_trichotomy j i with h1 | h1 | h1
    · have := lt_key (std_get hst h1 hi) hzk; omega
    · rw [h1] at hzd; exact hzd
    · exfalso
      rcases Nat.eq_or_lt_of_le h1 with h2 | h2
      · exact hne (by omega) (by rw [show i + 1 = j by omega]; exact hzk)
      · exact hne (by omega) (key_between (std_get hst (Nat.lt_succ_self i) (by omega)) (std_get hst h2 hj) hzk.symm).symm
  intro d
  induction d with
  | zero =>
    intro i h1
    rw [moultlaw12_MergeNeeds.l0L_eq, if_neg (by omega)]
  | succ d ih =>
    intro i h1
    have h3 : i < t.length := by omega
    have hx := hin _ (rd_mem h3)
    have hn : (rd_L4 r 0).length < 100000 := by have := hg.2.1; omega
    have key : ∀ (c q : Nat) (nd : Bool), c = shots.length - q → (nd || (shots.drop q).any fun s => nn (rd_L4 r 0) s (rd_T36 t (i : Int))) = true → moultlaw12_MergeNeeds.l1L shots last r t (i : Int) nd (q : Int) = some true := by
      intro c
      induction c with
      | zero =>
        intro q nd h4 h5
        rw [List.drop_eq_nil_of_le (by omega)] at h5
        have hnd : nd = true := by simpa using h5
        subst hnd
        have hw := wsucc h3 (show t.length < 100000 by omega)
        have hgo := ih (i + 1) (by omega)
        rw [moultlaw12_MergeNeeds.l1L_eq, if_neg (by omega), hw]
        by_cases c1 : i + 1 < t.length
        · rw [if_neg (by omega), if_pos (by omega), if_pos (by omega), if_pos (by omega), if_pos (by omega), if_pos rfl]
          split
          · rename_i hl
            split
            · exact hgo
            · rename_i hk
              rw [bytes_eq] at hk
              rw [hend hl i h3 (fun _ => hk), if_neg (by simp)]
              exact hgo
          · exact hgo
        · rw [if_pos (by omega), if_pos rfl]
          split
          · rename_i hl
            rw [if_pos (by omega), if_pos (by omega), hend hl i h3 (fun h => absurd h c1), if_neg (by simp)]
            exact hgo
          · exact hgo
      | succ c ihc =>
        intro q nd h4 h5
        have h6 : q < shots.length := by omega
        have hd : shots.drop q = rd shots (q : Int) :: shots.drop (q + 1) := by
          rw [List.drop_eq_getElem_cons h6, rdi_get h6]
        rw [moultlaw12_MergeNeeds.l1L_eq, if_pos (by omega), wsucc h6 (by omega)]
        by_cases hnd : nd = true
        · rw [if_pos hnd]
          exact ihc (q + 1) true (by omega) (by simp)
        · rw [if_neg hnd, if_pos (by omega), if_pos (by omega), if_pos (by omega), if_pos (by omega), newest_L _ hn]
          simp only [Option.bind_some]
          refine ihc (q + 1) _ (by omega) ?_
          rw [hd, List.any_cons] at h5
          simpa [hnd] using h5
    rw [moultlaw12_MergeNeeds.l0L_eq, if_pos (by omega), if_pos (by omega), if_pos (by omega), newest_L _ hn]
    simp only [Option.bind_some]
    refine key shots.length 0 _ (by omega) ?_
    rw [List.drop_zero]
    have h7 := hx.2
    unfold need at h7
    rw [Bool.or_eq_true] at h7 ⊢
    rcases h7 with h7 | h7
    · exact .inl (nn_small hg.2.2 hx.1 (by omega) h7)
    · exact .inr h7
theorem MergeNeeds : moultlaw12_MergeNeeds.Pure := by
  intro l shots last _ _
  refine lim_some (g := fun k => moultlaw12_MergeNeeds.f k l shots last) (show moultlaw12_MergeNeeds.fL l shots last = some true from ?_)
  rw [moultlaw12_MergeNeeds.fL_eq, shown_L]
  obtain ⟨r, b, e, h⟩ := rows_L [l]
  simp only [Option.bind_some, if_true]
  rw [e]
  simp only [Option.bind_some]
  have no : moultlaw12_MergeNeeds.j0L shots last true r true = some true := by rw [moultlaw12_MergeNeeds.j0L_eq, if_pos rfl]
  by_cases hb : b = true
  · rw [if_pos hb]
    obtain ⟨h1, _, hg⟩ := h hb
    have hr : r = [rd_L4 r 0] := good_one (by simpa using h1)
    have hgood : Mrg.Good (rd_L4 r 0) := hg _ (by rw [hr]; simp [rd_L4])
    by_cases hs : (shots.length : Int) > 20
    · rw [decide_eq_true hs, no]
    · rw [decide_eq_false hs, moultlaw12_MergeNeeds.j0L_eq, if_neg (by simp), if_pos (by simp at h1; omega), pthin hgood.1 (by have := hgood.2.1; omega) (fun x hx => by have := (hgood.2.2 x hx).2.2; omega) shots (by omega) last]
      simp only [Option.bind_some]
      exact needs_l (by simp at h1; omega) hgood shots (by omega) last _ rfl _ 0 rfl
  · rw [if_neg hb, no]
end Go.Proofs.Ythdoanbadhfhjaa.Pure
