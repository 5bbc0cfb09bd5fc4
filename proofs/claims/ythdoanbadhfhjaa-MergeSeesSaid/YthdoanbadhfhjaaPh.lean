/- The plain laws of merge, part h: entries of a row that stands. -/
import Derived.Test.YthdoanbadhfhjaaPe
import Derived.Test.YthdoanbadhfhjaaPg
import Derived.Test.YthdoanbadhfhjaaLa
set_option linter.unusedVariables false
set_option linter.unusedSimpArgs false
namespace Go.Proofs.Ythdoanbadhfhjaa.Mrg
open Go.RowKit Go.Proofs.Ythdoanbadhfhjaa.PAll Go.Proofs.Ythdoanbadhfhjaa Go.Proofs.YthdoanbadhfhjaaW.PrintWords Go.Proofs.YthdoanbadhfhjaaW.PrintLast Go.Proofs.YthdoanbadhfhjaaW.PrintMore

theorem rd_get {l : List S36} {i : Nat} (h : i < l.length) : rd_T36 l (i : Int) = l[i] := by
  unfold rd_T36
  rw [Int.toNat_natCast, List.getD_eq_getElem?_getD, List.getElem?_eq_getElem h, Option.getD_some]
theorem std_get {l : List S36} (hl : Std l) {i j : Nat} (hi : i < j) (hj : j < l.length) : lt (rd_T36 l (i : Int)) (rd_T36 l (j : Int)) = true := by
  rw [rd_get (by omega), rd_get hj]
  exact List.pairwise_iff_getElem.mp hl i j (by omega) hj hi
theorem lt_key {a b : S36} (h : lt a b = true) (hk : a.f0 = b.f0) : b.f1 < a.f1 := by
  rw [lt_iff] at h
  rcases h with h | h
  · have := (kc_zero a b).mpr hk; omega
  · exact h.2
theorem mem_rd {l : List S36} {x : S36} (h : x ∈ l) : ∃ j, j < l.length ∧ x = rd_T36 l ((j : Nat) : Int) := by
  obtain ⟨j, hj, e⟩ := List.mem_iff_getElem.mp h
  exact ⟨j, hj, by rw [rd_get hj, e]⟩
theorem wsucc {i n : Nat} (h : i < n) (hn : n < 100000) : wrap64 ((i : Int) + 1) = ((i + 1 : Nat) : Int) := by rw [w64 (by omega) (by omega)]; omega

theorem filter_drop {l : List S36} {i : Nat} (h : i < l.length) (p : S36 → Bool) : (l.drop i).filter p = (if p (rd_T36 l (i : Int)) = true then [rd_T36 l (i : Int)] else []) ++ (l.drop (i + 1)).filter p := by
  rw [rd_drop h, List.filter_cons]
  split <;> simp
theorem key_between {a b c : S36} (h1 : lt a b = true) (h2 : lt b c = true) (h : a.f0 = c.f0) : a.f0 = b.f0 := by
  rw [lt_iff] at h1 h2
  rcases h1 with h1 | h1
  · rcases h2 with h2 | h2
    · have := kc_trans h1 h2; have := (kc_zero a c).mpr h; omega
    · rw [h2.1, h]
  · exact h1.1
end Go.Proofs.Ythdoanbadhfhjaa.Mrg
