/- The plain laws of merge, part s: both Sorted, and known. -/
import Derived.Test.YthdoanbadhfhjaaPk
import Derived.Test.YthdoanbadhfhjaaLq
import Derived.Test.YthdoanbadhfhjaaPh2
set_option linter.unusedVariables false
set_option linter.unusedSimpArgs false
namespace Go.Proofs.Ythdoanbadhfhjaa.Mrg
open Go.RowKit Go.Proofs.Ythdoanbadhfhjaa.PAll Go.Proofs.Ythdoanbadhfhjaa Go.Proofs.YthdoanbadhfhjaaW.PrintWords Go.Proofs.YthdoanbadhfhjaaW.PrintLast Go.Proofs.YthdoanbadhfhjaaW.PrintMore

theorem rless_L {a b : S36} (ha : Fit a) (hb : Fit b) : moultref10_Less.fL a.f0 a.f1 a.f2 a.f3 b.f0 b.f1 b.f2 b.f3 = some (lt a b) := (moultref10_Less.f_lim _ _ _ _ _ _ _ _).of_ev (rless_ev ha hb)
theorem sorted_l {l : List S36} (hn : l.length < 100000) : ∀ (d i : Nat), d = l.length - i → 1 ≤ i → ∃ b, merge_Sorted.l0L l (i : Int) = some b ∧ ((∀ x ∈ l, Fit x) → moultref12_Sorted.l0L l (i : Int) = some b) ∧ (Std l → b = true) := by
  intro d
  induction d with
  | zero =>
    intro i h1 h2
    refine ⟨true, ?_, fun hf => ?_, fun _ => rfl⟩
    · rw [merge_Sorted.l0L_eq, if_neg (by omega)]
    · rw [moultref12_Sorted.l0L_eq, if_neg (by omega)]
  | succ d ih =>
    intro i h1 h2
    have h3 : i < l.length := by omega
    obtain ⟨b, e1, e2, e3⟩ := ih (i + 1) (by omega) (by omega)
    by_cases c : lt (rd_T36 l ((i - 1 : Nat) : Int)) (rd_T36 l (i : Int)) = true
    · refine ⟨b, ?_, fun hf => ?_, e3⟩
      · rw [merge_Sorted.l0L_eq, wpred h2 (Nat.le_refl _) (by omega), if_pos (by omega), if_pos (by omega), if_pos (by omega), if_pos (by omega), less_L]
        simp only [Option.bind_some]
        rw [if_pos c, wsucc h3 hn, e1]
      · rw [moultref12_Sorted.l0L_eq, wpred h2 (Nat.le_refl _) (by omega), if_pos (by omega), if_pos (by omega), if_pos (by omega), if_pos (by omega), rless_L (hf _ (rd_mem (by omega))) (hf _ (rd_mem h3))]
        simp only [Option.bind_some]
        rw [if_pos c, wsucc h3 hn, e2 hf]
    · refine ⟨false, ?_, fun hf => ?_, fun hs => absurd (std_get hs (by omega) h3) c⟩
      · rw [merge_Sorted.l0L_eq, wpred h2 (Nat.le_refl _) (by omega), if_pos (by omega), if_pos (by omega), if_pos (by omega), if_pos (by omega), less_L]
        simp only [Option.bind_some]
        rw [if_neg c]
      · rw [moultref12_Sorted.l0L_eq, wpred h2 (Nat.le_refl _) (by omega), if_pos (by omega), if_pos (by omega), if_pos (by omega), if_pos (by omega), rless_L (hf _ (rd_mem (by omega))) (hf _ (rd_mem h3))]
        simp only [Option.bind_some]
        rw [if_neg c]
theorem sorted_L {l : List S36} (hn : l.length < 100000) : ∃ b, merge_Sorted.fL l = some b ∧ ((∀ x ∈ l, Fit x) → moultref12_Sorted.fL l = some b) ∧ (Std l → b = true) := by
  obtain ⟨b, h1, h2, h3⟩ := sorted_l hn (l.length - 1) 1 (by omega) (by omega)
  exact ⟨b, by rw [merge_Sorted.fL_eq]; exact h1, fun hf => by rw [moultref12_Sorted.fL_eq]; exact h2 hf, h3⟩
theorem known_l {l : List S36} {e : S36} (hn : l.length < 100000) : ∀ (d i : Nat), d = l.length - i → (∃ x ∈ l.drop i, eqk x e) → moultlaw12_known.l0L l (i : Int) e.f0 e.f1 e.f2 e.f3 = some true := by
  intro d
  induction d with
  | zero =>
    intro i h1 h2
    rw [List.drop_eq_nil_of_le (by omega)] at h2
    obtain ⟨x, hx, _⟩ := h2
    simp at hx
  | succ d ih =>
    intro i h1 h2
    have h3 : i < l.length := by omega
    rw [moultlaw12_known.l0L_eq, if_pos (by omega), if_pos (by omega), wsucc h3 hn]
    obtain ⟨x, hx, he⟩ := h2
    rw [rd_drop h3, List.mem_cons] at hx
    have go : ¬ eqk (rd_T36 l (i : Int)) e → moultlaw12_known.l0L l ((i + 1 : Nat) : Int) e.f0 e.f1 e.f2 e.f3 = some true := fun c =>
      ih (i + 1) (by omega) ⟨x, hx.resolve_left (fun h => c (h ▸ he)), he⟩
    split
    · rename_i h
      rw [bytes_eq] at h
      split
      · rfl
      · rename_i h2
        exact go (fun c => h2 c.2)
    · rename_i h
      rw [bytes_eq] at h
      exact go (fun c => h c.1)
theorem known_L {l : List S36} {e : S36} (hn : l.length < 100000) (h : ∃ x ∈ l, eqk x e) : moultlaw12_known.fL l e.f0 e.f1 e.f2 e.f3 = some true := by
  rw [moultlaw12_known.fL_eq]
  exact known_l hn _ 0 rfl (by simpa using h)
end Go.Proofs.Ythdoanbadhfhjaa.Mrg
