/- The plain laws of merge, part b: the program's and the document's order, put and Merge, in closed form. -/
import Derived.Test.YthdoanbadhfhjaaPa
import Derived.Test.YthdoanbadhfhjaaPAllx4
import Derived.Test.YthdoanbadhfhjaaPAllx12
import Derived.Laws.Strings
set_option linter.unusedVariables false
set_option linter.unusedSimpArgs false
namespace Go.Proofs.Ythdoanbadhfhjaa.Mrg
open Go.RowKit Go.Proofs.Ythdoanbadhfhjaa.PAll Go.Proofs.Ythdoanbadhfhjaa Go.Proofs.YthdoanbadhfhjaaW.PrintWords Go.Proofs.YthdoanbadhfhjaaW.PrintLast Go.Proofs.YthdoanbadhfhjaaW.PrintMore

theorem w64 {i : Int} (h0 : -9223372036854775808 ≤ i) (h1 : i ≤ 9223372036854775807) : wrap64 i = i := by unfold wrap64; omega
theorem bytes_inj {a b : ByteArray} (h : a.data.toList = b.data.toList) : a = b := by
  have h2 : a.data = b.data := Array.toList_inj.mp h
  cases a; cases b; exact congrArg _ h2
theorem bytes_eq (a b : ByteArray) : a.toList = b.toList ↔ a = b := by
  rw [ByteArray.toList_eq, ByteArray.toList_eq]
  exact ⟨bytes_inj, fun h => by rw [h]⟩

/-! ### the order -/
theorem or2_ev (c d : Int) : Ev (fun k => cmp_Or_int.f k [c, d]) (if c = 0 then d else c) := by
  refine ⟨4, fun k hk => ?_⟩
  obtain ⟨m, rfl⟩ : ∃ m, k = m + 4 := ⟨k - 4, by omega⟩
  by_cases h : c = 0
  · by_cases h2 : d = 0
    · simp [cmp_Or_int.f, cmp_Or_int.l0, rd, wrap64, h, h2]
    · simp [cmp_Or_int.f, cmp_Or_int.l0, rd, wrap64, h, h2]
  · simp [cmp_Or_int.f, cmp_Or_int.l0, rd, wrap64, h]
theorem cmpi_eq (a b : Int) : cmp_Compare_int.f a b = some (if a < b then -1 else if b < a then 1 else 0) := by
  unfold cmp_Compare_int.f cmp_isNaN_int.f
  simp only [bne_self_eq_false, Option.bind_some, Bool.false_eq_true, if_false]
  split
  · rfl
  · split <;> rename_i h
    · first | rfl | rw [if_pos (by omega)]
    · first | rfl | rw [if_neg (by omega)]
theorem less_ev (a b : S36) : Ev (fun k => table_Less.f k a.f0 a.f1 a.f2 a.f3 b.f0 b.f1 b.f2 b.f3) (lt a b) := by
  unfold table_Less.f table_order.f strings_Compare.f
  rw [cmpi_eq]
  simp only [Option.bind_some]
  obtain ⟨K, h⟩ := or2_ev (kc a b) (if b.f1 < a.f1 then -1 else if a.f1 < b.f1 then 1 else 0)
  refine ⟨K, fun k hk => ?_⟩
  have h := h k hk
  unfold kc at h
  dsimp only at h ⊢
  rw [h]
  simp only [Option.bind_some]
  congr 1
  unfold lt kc
  rw [decide_eq_decide]
  split <;> (try split) <;> (try split) <;> omega
/-- The document's comparison of bytes, from a place on. -/
theorem rbytes_ev (a b : ByteArray) (ha : a.size ≤ 140737488351232) (hb : b.size ≤ 140737488351232) : ∀ (n i : Nat), n = a.size - i → i ≤ a.size → i ≤ b.size → Ev (fun k => moultref1_Bytes.l0 k a b (i : Int)) (Lib.compareBytes (a.data.toList.drop i) (b.data.toList.drop i)) := by
  intro n
  induction n with
  | zero =>
    intro i hn hi hj
    have hi2 : i = a.size := by omega
    subst hi2
    rw [List.drop_eq_nil_of_le (by rw [Array.length_toList]; exact Nat.le_refl _)]
    refine ⟨2, fun k hk => ?_⟩
    obtain ⟨m, rfl⟩ : ∃ m, k = m + 2 := ⟨k - 2, by omega⟩
    simp only [moultref1_Bytes.l0, moultref1_Bytes.j1]
    rw [if_neg (by omega), if_neg (by simp)]
    by_cases h : a.size < b.size
    · rw [if_pos (by omega)]
      cases e : b.data.toList.drop a.size with
      | nil =>
        have := congrArg List.length e
        rw [List.length_drop, Array.length_toList, List.length_nil] at this
        have hs : b.data.size = b.size := rfl
        omega
      | cons x l => rfl
    · rw [if_neg (by omega), if_neg (by omega)]
      rw [List.drop_eq_nil_of_le (by rw [Array.length_toList]; show b.data.size ≤ a.size; have hs : b.data.size = b.size := rfl; omega)]
      rfl
  | succ n ih =>
    intro i hn hi hj
    have hia : i < a.size := by omega
    have has : a.data.size = a.size := rfl
    have hbs : b.data.size = b.size := rfl
    have ea : a.data.toList.drop i = a.data[i]'(by omega) :: a.data.toList.drop (i + 1) := by
      rw [List.drop_eq_getElem_cons (by rw [Array.length_toList]; omega)]; rfl
    rw [ea]
    by_cases hib : i < b.size
    · have eb : b.data.toList.drop i = b.data[i]'(by omega) :: b.data.toList.drop (i + 1) := by
        rw [List.drop_eq_getElem_cons (by rw [Array.length_toList]; omega)]; rfl
      rw [eb]
      obtain ⟨K, ih⟩ := ih (i + 1) (by omega) (by omega) (by omega)
      refine ⟨K + 2, fun k hk => ?_⟩
      obtain ⟨m, rfl⟩ : ∃ m, k = m + 2 := ⟨k - 2, by omega⟩
      simp only [moultref1_Bytes.l0, moultref1_Bytes.j1]
      rw [if_pos (by omega), if_pos (by simp; omega), if_pos (by omega), if_pos (by omega), if_pos (by omega)]
      have va : bt a (i : Int) = ((a.data[i]'(by omega)).toNat : Int) := by
        simp [bt, ByteArray.get!, getElem!_pos, has, hia]; rfl
      have vb : bt b (i : Int) = ((b.data[i]'(by omega)).toNat : Int) := by
        simp [bt, ByteArray.get!, getElem!_pos, hbs, hib]; rfl
      rw [va, vb]
      simp only [Lib.compareBytes]
      by_cases h1 : a.data[i]'(by omega) < b.data[i]'(by omega)
      · rw [if_pos h1, if_pos (by have := UInt8.lt_iff_toNat_lt.mp h1; omega)]
      · rw [if_neg h1, if_neg (by intro h; exact h1 (UInt8.lt_iff_toNat_lt.mpr (by omega)))]
        by_cases h2 : b.data[i]'(by omega) < a.data[i]'(by omega)
        · rw [if_pos h2, if_pos (by have := UInt8.lt_iff_toNat_lt.mp h2; omega)]
        · rw [if_neg h2, if_neg (by intro h; exact h2 (UInt8.lt_iff_toNat_lt.mpr (by omega)))]
          rw [w64 (by omega) (by omega)]
          exact ih m (by omega)
    · rw [show b.data.toList.drop i = [] from List.drop_eq_nil_of_le (by rw [Array.length_toList]; omega)]
      refine ⟨2, fun k hk => ?_⟩
      obtain ⟨m, rfl⟩ : ∃ m, k = m + 2 := ⟨k - 2, by omega⟩
      simp only [moultref1_Bytes.l0, moultref1_Bytes.j1]
      rw [if_pos (by omega), if_neg (by simp; omega), if_neg (by omega), if_pos (by omega)]
      rfl
/-- An entry's key and data are no longer than they can be. -/
def Fit (e : S36) : Prop := e.f0.size ≤ 140737488351232
theorem rless_ev {a b : S36} (ha : Fit a) (hb : Fit b) : Ev (fun k => moultref10_Less.f k a.f0 a.f1 a.f2 a.f3 b.f0 b.f1 b.f2 b.f3) (lt a b) := by
  obtain ⟨K, h⟩ := rbytes_ev a.f0 b.f0 ha hb a.f0.size 0 (by omega) (by omega) (by omega)
  refine ⟨K, fun k hk => ?_⟩
  have h := h k hk
  rw [List.drop_zero, List.drop_zero] at h
  unfold moultref10_Less.f moultref1_Bytes.f
  dsimp only at h ⊢
  rw [show (0 : Int) = ((0 : Nat) : Int) from rfl, h]
  simp only [Option.bind_some]
  unfold lt kc
  by_cases h1 : Lib.compareBytes a.f0.data.toList b.f0.data.toList < 0
  · rw [if_pos (by exact_mod_cast h1)]; simp [h1]
  · rw [if_neg (by exact_mod_cast h1)]
    by_cases h2 : Lib.compareBytes a.f0.data.toList b.f0.data.toList = 0
    · rw [if_pos (by exact_mod_cast h2)]; simp [h2]
    · rw [if_neg (by exact_mod_cast h2)]; simp [h1, h2]
end Go.Proofs.Ythdoanbadhfhjaa.Mrg
