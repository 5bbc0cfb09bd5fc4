/- The plain laws of merge, part c: the document's put and Merge; rows. -/
import Derived.Test.YthdoanbadhfhjaaPb
set_option linter.unusedVariables false
set_option linter.unusedSimpArgs false
namespace Go.Proofs.Ythdoanbadhfhjaa.Mrg
open Go.RowKit Go.Proofs.Ythdoanbadhfhjaa.PAll Go.Proofs.Ythdoanbadhfhjaa Go.Proofs.YthdoanbadhfhjaaW.PrintWords Go.Proofs.YthdoanbadhfhjaaW.PrintLast Go.Proofs.YthdoanbadhfhjaaW.PrintMore

theorem rd_drop {l : List S36} {i : Nat} (h : i < l.length) : l.drop i = rd_T36 l (i : Int) :: l.drop (i + 1) := by
  rw [List.drop_eq_getElem_cons h]
  unfold rd_T36
  rw [Int.toNat_natCast, List.getD_eq_getElem?_getD, List.getElem?_eq_getElem h]; rfl
theorem rd_mem {l : List S36} {i : Nat} (h : i < l.length) : rd_T36 l (i : Int) ∈ l := by
  have : rd_T36 l (i : Int) ∈ l.drop i := by rw [rd_drop h]; simp
  exact List.mem_of_mem_drop this
theorem take_rd {l : List S36} {i : Nat} (h : i < l.length) : l.take (i + 1) = l.take i ++ [rd_T36 l (i : Int)] := by
  rw [List.take_add_one, List.getElem?_eq_getElem h]
  congr 1
  unfold rd_T36
  rw [Int.toNat_natCast, List.getD_eq_getElem?_getD, List.getElem?_eq_getElem h]; rfl

/-! ### put -/
theorem put_ev {l : List S36} {e : S36} (hl : ∀ x ∈ l, Fit x) (he : Fit e) (hn : l.length < 100000) : ∀ (n i : Nat), n = l.length - i → i ≤ l.length → Ev (fun k => moultref12_put.l0 k l (i : Int) e.f0 e.f1 e.f2 e.f3) (l.take i ++ ins (l.drop i) e) := by
  intro n
  induction n with
  | zero =>
    intro i h1 h2
    have h3 : i = l.length := by omega
    subst h3
    refine ⟨1, fun k hk => ?_⟩
    obtain ⟨m, rfl⟩ : ∃ m, k = m + 1 := ⟨k - 1, by omega⟩
    simp only [moultref12_put.l0]
    rw [if_neg (by omega)]
    simp only [Option.bind_some, List.nil_append, Int.toNat_natCast, List.take_length, List.drop_length]
    rw [if_pos (by omega), if_pos (by omega), if_pos (by simp; omega), if_pos (by simp; omega), if_pos (by simp; omega)]
    simp [ins]
  | succ n ih =>
    intro i h1 h2
    have h3 : i < l.length := by omega
    obtain ⟨K, ih⟩ := ih (i + 1) (by omega) (by omega)
    obtain ⟨K1, L1⟩ := rless_ev (hl _ (rd_mem h3)) he
    obtain ⟨K2, L2⟩ := rless_ev he (hl _ (rd_mem h3))
    refine ⟨max K (max K1 K2) + 1, fun k hk => ?_⟩
    obtain ⟨m, rfl⟩ : ∃ m, k = m + 1 := ⟨k - 1, by omega⟩
    have ih := ih m (by omega)
    have L1 := L1 m (by omega)
    have L2 := L2 m (by omega)
    dsimp only at ih L1 L2 ⊢
    simp only [moultref12_put.l0]
    rw [if_pos (by omega), if_pos (by omega), L1]
    simp only [Option.bind_some]
    rw [rd_drop h3]
    unfold ins
    by_cases c1 : lt (rd_T36 l (i : Int)) e = true
    · rw [if_pos c1, if_pos c1, w64 (by omega) (by omega), ← Int.natCast_succ, ih, take_rd h3]
      simp
    · rw [if_neg c1, if_neg c1, L2]
      simp only [Option.bind_some]
      by_cases c2 : lt e (rd_T36 l (i : Int)) = true
      · rw [if_pos c2, if_pos c2]
        simp only [Option.bind_some, List.nil_append, Int.toNat_natCast]
        rw [if_pos (by omega), if_pos (by simp; omega), if_pos (by simp; omega), if_pos (by simp; omega)]
        rw [← rd_drop h3]
        simp
      · rw [if_neg c2, if_neg c2, ← rd_drop h3, List.take_append_drop]
theorem put_ins {l : List S36} {e : S36} (hl : ∀ x ∈ l, Fit x) (he : Fit e) (hn : l.length < 100000) : Ev (fun k => moultref12_put.f k l e.f0 e.f1 e.f2 e.f3) (ins l e) := by
  have := put_ev hl he hn l.length 0 (by omega) (by omega)
  rw [List.take_zero, List.drop_zero, List.nil_append] at this
  exact this
theorem ins_length (l : List S36) (e : S36) : (ins l e).length ≤ l.length + 1 := by
  induction l with
  | nil => simp [ins]
  | cons a l ih =>
    unfold ins
    split
    · simp; omega
    · split <;> simp
theorem ins_mem {l : List S36} {e x : S36} (h : x ∈ ins l e) : x ∈ l ∨ x = e := by
  induction l with
  | nil => simpa [ins] using h
  | cons a l ih =>
    unfold ins at h
    split at h
    · rcases List.mem_cons.mp h with h | h
      · exact .inl (by simp [h])
      · rcases ih h with h | h
        · exact .inl (by simp [h])
        · exact .inr h
    · split at h
      · rcases List.mem_cons.mp h with h | h
        · exact .inr h
        · exact .inl h
      · exact .inl h

/-! ### the document's Merge -/
theorem fold_fit {M : List S36} : ∀ {A : List S36}, (∀ x ∈ A, Fit x) → (∀ x ∈ M, Fit x) → ∀ x ∈ M.foldl ins A, Fit x := by
  induction M with
  | nil => exact fun h _ => h
  | cons e M ih =>
    intro A hA hM
    refine ih (fun x hx => ?_) (fun x hx => hM x (by simp [hx]))
    rcases ins_mem hx with h | h
    · exact hA x h
    · rw [h]; exact hM e (by simp)
theorem fold_length (M : List S36) : ∀ A : List S36, (M.foldl ins A).length ≤ A.length + M.length := by
  induction M with
  | nil => intro A; simp
  | cons e M ih =>
    intro A
    have h1 := ih (ins A e)
    have h2 := ins_length A e
    simp only [List.foldl_cons, List.length_cons]
    omega
/-- All the entries of some rows. -/
abbrev al (L : List (List S36)) : List S36 := L.flatten
theorem rd4_drop {l : List (List S36)} {i : Nat} (h : i < l.length) : l.drop i = rd_L4 l (i : Int) :: l.drop (i + 1) := by
  rw [List.drop_eq_getElem_cons h]
  unfold rd_L4
  rw [Int.toNat_natCast, List.getD_eq_getElem?_getD, List.getElem?_eq_getElem h]; rfl
/-- From an entry of a row on. -/
theorem rmerge1_ev {L : List (List S36)} (i : Nat) (hi : i < L.length) (hL : L.length < 100000) (hf : ∀ x ∈ L.flatten, Fit x)
    (nx : ∀ A : List S36, (∀ x ∈ A, Fit x) → A.length + (L.drop (i + 1)).flatten.length < 100000 → Ev (fun k => moultref12_Merge.l0 k L A ((i + 1 : Nat) : Int)) ((L.drop (i + 1)).flatten.foldl ins A)) :
    ∀ (n j : Nat) (A : List S36), n = (rd_L4 L (i : Int)).length - j → j ≤ (rd_L4 L (i : Int)).length → (∀ x ∈ A, Fit x) → A.length + ((rd_L4 L (i : Int)).length - j) + (L.drop (i + 1)).flatten.length < 100000 → (rd_L4 L (i : Int)).length < 100000 →
      Ev (fun k => moultref12_Merge.l1 k L A (i : Int) (j : Int)) ((L.drop (i + 1)).flatten.foldl ins (((rd_L4 L (i : Int)).drop j).foldl ins A)) := by
  have hg : ∀ x ∈ rd_L4 L (i : Int), x ∈ L.flatten := by
    intro x hx
    have h1 : rd_L4 L (i : Int) ∈ L := by
      have : rd_L4 L (i : Int) ∈ L.drop i := by rw [rd4_drop hi]; simp
      exact List.mem_of_mem_drop this
    exact List.mem_flatten.mpr ⟨_, h1, hx⟩
  intro n
  induction n with
  | zero =>
    intro j A h1 h2 hA hk hk2
    obtain ⟨K, nx⟩ := nx A hA (by omega)
    refine ⟨K + 1, fun k hk => ?_⟩
    obtain ⟨m, rfl⟩ : ∃ m, k = m + 1 := ⟨k - 1, by omega⟩
    have nx := nx m (by omega)
    dsimp only at nx ⊢
    simp only [moultref12_Merge.l1]
    rw [if_pos (by omega), if_pos (by omega), if_neg (by omega), w64 (by omega) (by omega), ← Int.natCast_succ, nx, show (rd_L4 L (i : Int)).drop j = [] from List.drop_eq_nil_of_le (by omega)]
    rfl
  | succ n ih =>
    intro j A h1 h2 hA hk hk2
    have h3 : j < (rd_L4 L (i : Int)).length := by omega
    obtain ⟨K1, P⟩ := put_ins hA (hf _ (hg _ (rd_mem h3))) (by omega)
    have h4 := ins_length A (rd_T36 (rd_L4 L (i : Int)) (j : Int))
    obtain ⟨K, ih⟩ := ih (j + 1) (ins A (rd_T36 (rd_L4 L (i : Int)) (j : Int))) (by omega) (by omega) (fun x hx => by
      rcases ins_mem hx with h | h
      · exact hA x h
      · rw [h]; exact hf _ (hg _ (rd_mem h3))) (by omega) hk2
    refine ⟨max K K1 + 1, fun k hk => ?_⟩
    obtain ⟨m, rfl⟩ : ∃ m, k = m + 1 := ⟨k - 1, by omega⟩
    have ih := ih m (by omega)
    have P := P m (by omega)
    dsimp only at ih P ⊢
    simp only [moultref12_Merge.l1]
    rw [if_pos (by omega), if_pos (by omega), if_pos (by omega), if_pos (by omega), P]
    simp only [Option.bind_some]
    rw [w64 (by omega) (by omega), ← Int.natCast_succ, ih, rd_drop h3]
    rfl
theorem rmerge0_ev {L : List (List S36)} (hL : L.length < 100000) (hf : ∀ x ∈ L.flatten, Fit x) :
    ∀ (n i : Nat) (A : List S36), n = L.length - i → i ≤ L.length → (∀ x ∈ A, Fit x) → A.length + (L.drop i).flatten.length < 100000 →
      Ev (fun k => moultref12_Merge.l0 k L A (i : Int)) ((L.drop i).flatten.foldl ins A) := by
  intro n
  induction n with
  | zero =>
    intro i A h1 h2 hA hk
    refine ⟨1, fun k hk => ?_⟩
    obtain ⟨m, rfl⟩ : ∃ m, k = m + 1 := ⟨k - 1, by omega⟩
    simp only [moultref12_Merge.l0]
    rw [if_neg (by omega), List.drop_eq_nil_of_le (by omega)]
    rfl
  | succ n ih =>
    intro i A h1 h2 hA hk
    have h3 : i < L.length := by omega
    have hd := rd4_drop h3
    rw [hd, List.flatten_cons, List.length_append] at hk
    obtain ⟨K, h⟩ := rmerge1_ev i h3 hL hf (fun A hA hk => ih (i + 1) A (by omega) (by omega) hA hk) _ 0 A rfl (by omega) hA (by omega) (by omega)
    refine ⟨K + 1, fun k hk => ?_⟩
    obtain ⟨m, rfl⟩ : ∃ m, k = m + 1 := ⟨k - 1, by omega⟩
    have h := h m (by omega)
    dsimp only at h ⊢
    simp only [moultref12_Merge.l0]
    rw [if_pos (by omega), show (0 : Int) = ((0 : Nat) : Int) from rfl, h, hd, List.flatten_cons, List.foldl_append, List.drop_zero]
/-- The document's Merge: the row of all of the entries. -/
theorem rmerge_ev {L : List (List S36)} (hL : L.length < 100000) (hf : ∀ x ∈ L.flatten, Fit x) (hn : L.flatten.length < 100000) :
    Ev (fun k => moultref12_Merge.f k L) (row L.flatten) := by
  have := rmerge0_ev hL hf L.length 0 [] (by omega) (by omega) (by simp) (by simpa using hn)
  rw [List.drop_zero] at this
  exact this
end Go.Proofs.Ythdoanbadhfhjaa.Mrg
