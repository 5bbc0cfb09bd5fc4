/- The plain laws of merge: has. -/
import Derived.Test.YthdoanbadhfhjaaPk
import Derived.Test.YthdoanbadhfhjaaLh
set_option linter.unusedVariables false
set_option linter.unusedSimpArgs false
namespace Go.Proofs.Ythdoanbadhfhjaa.Mrg
open Go.RowKit Go.Proofs.Ythdoanbadhfhjaa.PAll Go.Proofs.Ythdoanbadhfhjaa Go.Proofs.YthdoanbadhfhjaaW.PrintWords Go.Proofs.YthdoanbadhfhjaaW.PrintLast Go.Proofs.YthdoanbadhfhjaaW.PrintMore

theorem rd4_get {L : List (List S36)} {i : Nat} (h : i < L.length) : rd_L4 L (i : Int) = L[i] := by
  unfold rd_L4
  rw [Int.toNat_natCast, List.getD_eq_getElem?_getD, List.getElem?_eq_getElem h, Option.getD_some]
theorem eq_e (x e : S36) : ((x.f0.toList) == e.f0.toList && ((x.f1 == e.f1) && ((x.f2 == e.f2) && (x.f3.toList == e.f3.toList)))) = true ↔ x = e := by
  rw [Bool.and_eq_true, Bool.and_eq_true, Bool.and_eq_true, beq_iff_eq, beq_iff_eq, beq_iff_eq, beq_iff_eq, bytes_eq, bytes_eq]
  cases x; cases e
  simp
theorem has_1 {L : List (List S36)} (e : S36) {i : Nat} (hi : i < L.length) (hL : L.length < 100000) (hn : (rd_L4 L (i : Int)).length < 100000) : ∀ (d q : Nat), d = (rd_L4 L (i : Int)).length - q →
    (e ∈ (rd_L4 L (i : Int)).drop q → moultlaw12_has.l1L L (i : Int) (q : Int) e.f0 e.f1 e.f2 e.f3 = some true) ∧
    (e ∉ (rd_L4 L (i : Int)).drop q → moultlaw12_has.l1L L (i : Int) (q : Int) e.f0 e.f1 e.f2 e.f3 = moultlaw12_has.l0L L ((i + 1 : Nat) : Int) e.f0 e.f1 e.f2 e.f3) := by
  intro d
  induction d with
  | zero =>
    intro q h1
    refine ⟨fun h => ?_, fun _ => ?_⟩
    · rw [List.drop_eq_nil_of_le (by omega)] at h
      simp at h
    · rw [moultlaw12_has.l1L_eq, if_pos (by omega), if_pos (by omega), if_neg (by omega), wsucc hi hL]
  | succ d ih =>
    intro q h1
    have h3 : q < (rd_L4 L (i : Int)).length := by omega
    obtain ⟨i1, i2⟩ := ih (q + 1) (by omega)
    rw [rd_drop h3, List.mem_cons, moultlaw12_has.l1L_eq, if_pos (by omega), if_pos (by omega), if_pos (by omega), if_pos (by omega), wsucc h3 hn]
    by_cases c : rd_T36 (rd_L4 L (i : Int)) (q : Int) = e
    · rw [if_pos ((eq_e _ _).mpr c)]
      exact ⟨fun _ => rfl, fun h => absurd (.inl c.symm) h⟩
    · rw [if_neg (fun h => c ((eq_e _ _).mp h))]
      exact ⟨fun h => i1 (h.resolve_left (fun h => c h.symm)), fun h => i2 (fun h2 => h (.inr h2))⟩
theorem has_0 {L : List (List S36)} (e : S36) (hL : L.length < 100000) (hn : ∀ l ∈ L, l.length < 100000) : ∀ (d i : Nat), d = L.length - i → e ∈ (L.drop i).flatten → moultlaw12_has.l0L L (i : Int) e.f0 e.f1 e.f2 e.f3 = some true := by
  intro d
  induction d with
  | zero =>
    intro i h1 h2
    rw [List.drop_eq_nil_of_le (by omega)] at h2
    simp at h2
  | succ d ih =>
    intro i h1 h2
    have h3 : i < L.length := by omega
    have h4 := hn (rd_L4 L (i : Int)) (by rw [rd4_get h3]; exact List.getElem_mem h3)
    obtain ⟨i1, i2⟩ := has_1 e h3 hL h4 _ 0 rfl
    rw [List.drop_zero] at i1 i2
    rw [moultlaw12_has.l0L_eq, if_pos (by omega)]
    by_cases c : e ∈ rd_L4 L (i : Int)
    · exact i1 c
    · have h5 := i2 c
      refine h5.trans (ih (i + 1) (by omega) ?_)
      rw [rd4_drop h3, List.flatten_cons, List.mem_append] at h2
      exact h2.resolve_left c
theorem has_L {L : List (List S36)} {e : S36} (hL : L.length < 100000) (hn : ∀ l ∈ L, l.length < 100000) (h : e ∈ L.flatten) : moultlaw12_has.fL L e.f0 e.f1 e.f2 e.f3 = some true := by
  rw [moultlaw12_has.fL_eq]
  exact has_0 e hL hn _ 0 rfl (by simpa using h)
end Go.Proofs.Ythdoanbadhfhjaa.Mrg
