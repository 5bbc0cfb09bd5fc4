/- For any two values of a kind and any kind: of two right values the lesser one is the lesser one behind widening: no condition but the statement's own. -/
import Derived.Test.YtcabpbjghiobpaaQLatticeKeeps
import Derived.Test.YtcabpbjghiobpaaKc
set_option linter.unusedSimpArgs false
namespace Go.Proofs.Ytcabpbjghiobpaa.Pure
open Go.RowKit Go.Proofs.Ytcabpbjghiobpaa.PAll Go.Proofs.Ytcabpbjghiobpaa.Lat Go.Proofs.YtcabpbjghiobpaaW.PrintWords Go.Proofs.YtcabpbjghiobpaaW.PrintLast Go.Proofs.YtcabpbjghiobpaaW.PrintMore
theorem cmp_eq (k : Nat) (c n m : Int) (s t : ByteArray) : moultref1_Compare.f (k + 3) c n s c m t = if n < m then some (-1) else if n > m then some 1 else moultref1_Bytes.f k s t := by
  simp [moultref1_Compare.f, moultref1_Compare.l0, rd, wrap64]
theorem bytes_some (s t : ByteArray) (hs : s.size ≤ 3000) : ∀ (d k : Nat) (i : Int), 0 ≤ i → (s.size : Int) - i ≤ d → ∃ r, moultref1_Bytes.l0 (k + 2 * d + 2) s t i = some r
  | d, k, i, h0, hd => by
    by_cases h1 : i < (s.size : Int)
    · obtain ⟨e, rfl⟩ : ∃ e, d = e + 1 := ⟨d - 1, by omega⟩
      obtain ⟨r, ih⟩ := bytes_some s t hs e k (i + 1) (by omega) (by omega)
      rw [show k + 2 * (e + 1) + 2 = (k + 2 * e + 2) + 1 + 1 from by omega]
      generalize k + 2 * e + 2 = q at ih ⊢
      have hw : wrap64 (i + 1) = i + 1 := by unfold wrap64; omega
      simp only [moultref1_Bytes.l0, moultref1_Bytes.j1]
      rw [if_pos h1, if_pos h0]
      by_cases h2 : i < (t.size : Int)
      · rw [decide_eq_true h2, if_pos rfl, if_pos h1, if_pos h2, hw, ih]
        split
        · exact ⟨_, rfl⟩
        · split <;> exact ⟨_, rfl⟩
      · rw [decide_eq_false h2, if_neg (by simp)]
        split
        · exact ⟨_, rfl⟩
        · split <;> exact ⟨_, rfl⟩
    · rw [show k + 2 * d + 2 = (k + 2 * d) + 1 + 1 from by omega]
      simp only [moultref1_Bytes.l0, moultref1_Bytes.j1]
      rw [if_neg h1, if_neg (by simp)]
      split
      · exact ⟨_, rfl⟩
      · split <;> exact ⟨_, rfl⟩
theorem LatticeKeeps : moultlaw2_LatticeKeeps.Pure := by
  intro u v q _ _ _
  obtain ⟨c, n, s⟩ := u
  obtain ⟨c2, m, t⟩ := v
  refine ⟨6100, ?_⟩
  unfold moultlaw2_LatticeKeeps.f
  rw [shown_eq 6060]
  simp only [Option.bind_some, if_true]
  simp only [moultlaw2_LatticeKeeps.j0]
  by_cases hl : (s.size : Int) > 3000
  · rw [if_pos hl, if_pos trivial]
  rw [if_neg hl]
  by_cases hl2 : (t.size : Int) > 3000
  · rw [if_pos hl2, if_pos trivial]
  rw [if_neg hl2]
  by_cases hc : c = c2
  · subst hc
    simp only [bne_self_eq_false, Bool.false_eq_true, if_false]
    rw [widen_eq 6089, widen_eq 6089]
    simp only [Option.bind_some, moultlaw2_LatticeKeeps.j1]
    rcases takeR_cases c n s q (belowB c q) with ⟨e, h1, h2, h3, h4⟩ | e | e | ⟨e, _, _⟩
    · rw [e]
      simp only [if_true]
      rcases takeR_cases c m t q (belowB c q) with ⟨e2, g1, g2, g3, g4⟩ | e2 | e2 | ⟨e2, _, _⟩
      · rw [e2]
        simp only [bne_self_eq_false, Bool.false_eq_true, if_false]
        rw [cmp_eq 6095, cmp_eq 6095]
        obtain ⟨r, hr⟩ := bytes_some s t (by omega) 3000 93 0 (by omega) (by omega)
        have hr' : moultref1_Bytes.f 6095 s t = some r := hr
        rw [hr']
        split
        · simp
        · split <;> simp
      · rw [e2]; simp
      · rw [e2]; simp
      · rw [e2]; simp
    · rw [e]; simp
    · rw [e]; simp
    · rw [e]; simp
  · have : (c != c2) = true := by simp [hc]
    rw [this, if_pos rfl]
end Go.Proofs.Ytcabpbjghiobpaa.Pure
