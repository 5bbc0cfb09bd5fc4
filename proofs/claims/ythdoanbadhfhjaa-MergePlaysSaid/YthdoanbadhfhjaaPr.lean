/- The plain laws of merge, part r: the document's Visible and Thin in closed form. -/
import Derived.Test.YthdoanbadhfhjaaPh
import Derived.Test.YthdoanbadhfhjaaLr
set_option linter.unusedVariables false
set_option linter.unusedSimpArgs false
namespace Go.Proofs.Ythdoanbadhfhjaa.Mrg
open Go.RowKit Go.Proofs.Ythdoanbadhfhjaa.PAll Go.Proofs.Ythdoanbadhfhjaa Go.Proofs.YthdoanbadhfhjaaW.PrintWords Go.Proofs.YthdoanbadhfhjaaW.PrintLast Go.Proofs.YthdoanbadhfhjaaW.PrintMore

/-! ### the document's newest -/
theorem rnew_some {l : List S36} (hl : Std l) (hn : l.length < 100000) (key : ByteArray) (a : Int) (b : Nat) (hb : b < l.length) (hk : (rd_T36 l (b : Int)).f0 = key) : ∀ (n i : Nat), n = l.length - i → b < i → i ≤ l.length → moultref12_newest.l0L l key a (b : Int) (i : Int) = some (b : Int) := by
  intro n
  induction n with
  | zero =>
    intro i h1 h2 h3
    rw [moultref12_newest.l0L_eq, if_neg (by omega)]
  | succ n ih =>
    intro i h1 h2 h3
    have h4 : i < l.length := by omega
    have e := ih (i + 1) (by omega) (by omega) (by omega)
    rw [moultref12_newest.l0L_eq, if_pos (by omega), if_pos (by omega), wsucc h4 hn]
    split
    · rename_i hk2
      rw [bytes_eq] at hk2
      split
      · rw [if_neg (by omega), if_pos (by omega), if_pos (by omega)]
        have := lt_key (std_get hl h2 h4) (hk.trans hk2.symm)
        rw [if_neg (by omega), e]
      · exact e
    · exact e
theorem rnew_none {l : List S36} (hl : Std l) (hn : l.length < 100000) (key : ByteArray) (a : Int) : ∀ (n i : Nat), n = l.length - i → i ≤ l.length → (∀ j, j < i → ¬ ((rd_T36 l ((j : Nat) : Int)).f0 = key ∧ (rd_T36 l ((j : Nat) : Int)).f1 ≤ a)) →
    ∃ r : Int, moultref12_newest.l0L l key a (-1) (i : Int) = some r ∧ ((r = -1 ∧ ∀ j, j < l.length → ¬ ((rd_T36 l ((j : Nat) : Int)).f0 = key ∧ (rd_T36 l ((j : Nat) : Int)).f1 ≤ a)) ∨
      ∃ b : Nat, r = (b : Int) ∧ b < l.length ∧ (rd_T36 l (b : Int)).f0 = key ∧ (rd_T36 l (b : Int)).f1 ≤ a ∧ ∀ j, j < b → ¬ ((rd_T36 l ((j : Nat) : Int)).f0 = key ∧ (rd_T36 l ((j : Nat) : Int)).f1 ≤ a)) := by
  intro n
  induction n with
  | zero =>
    intro i h1 h2 h3
    refine ⟨-1, ?_, .inl ⟨rfl, fun j hj => h3 j (by omega)⟩⟩
    rw [moultref12_newest.l0L_eq, if_neg (by omega)]
  | succ n ih =>
    intro i h1 h2 h3
    have h4 : i < l.length := by omega
    rw [moultref12_newest.l0L_eq, if_pos (by omega), if_pos (by omega), wsucc h4 hn]
    by_cases hq : (rd_T36 l (i : Int)).f0 = key ∧ (rd_T36 l (i : Int)).f1 ≤ a
    · refine ⟨i, ?_, .inr ⟨i, rfl, h4, hq.1, hq.2, h3⟩⟩
      rw [if_pos ((bytes_eq _ _).mpr hq.1), if_pos hq.2, if_pos (by omega)]
      exact rnew_some hl hn key a i h4 hq.1 n (i + 1) (by omega) (by omega) (by omega)
    · obtain ⟨r, e, hr⟩ := ih (i + 1) (by omega) (by omega) (fun j hj => by
        by_cases hji : j = i
        · rw [hji]; exact hq
        · exact h3 j (by omega))
      refine ⟨r, ?_, hr⟩
      split
      · rename_i hk
        rw [bytes_eq] at hk
        rw [if_neg (fun h => hq ⟨hk, h⟩), e]
      · exact e
theorem rnew {l : List S36} (hl : Std l) (hn : l.length < 100000) (a : Int) {i : Nat} (hi : i < l.length) : ∃ r : Int, moultref12_newest.fL l (rd_T36 l (i : Int)).f0 a = some r ∧ (r = (i : Int) ↔ nn l a (rd_T36 l (i : Int)) = true) := by
  obtain ⟨r, e, h⟩ := rnew_none hl hn (rd_T36 l (i : Int)).f0 a l.length 0 (by omega) (by omega) (fun j hj => by omega)
  refine ⟨r, by rw [moultref12_newest.fL_eq]; exact e, ?_⟩
  rw [nn_iff]
  rcases h with ⟨rfl, h⟩ | ⟨b, rfl, hb, hk, ha, h⟩
  · exact ⟨fun e => by omega, fun hnn => absurd ⟨rfl, hnn.1⟩ (h i hi)⟩
  · constructor
    · intro e
      have e2 : b = i := by omega
      subst e2
      refine ⟨ha, fun x hx hxk hxa => ?_⟩
      obtain ⟨j, hj, rfl⟩ := mem_rd hx
      rcases Nat.lt_trichotomy j b with h1 | h1 | h1
      · exact absurd ⟨hxk, hxa⟩ (h j h1)
      · rw [h1]; exact Int.le_refl _
      · exact Int.le_of_lt (lt_key (std_get hl h1 hj) hxk.symm)
    · intro hnn
      rcases Nat.lt_trichotomy b i with h1 | h1 | h1
      · have h2 := hnn.2 _ (rd_mem hb) hk ha
        have h3 := lt_key (std_get hl h1 hi) hk
        omega
      · rw [h1]
      · exact absurd ⟨rfl, hnn.1⟩ (h i h1)
/-! ### the document's Visible -/
theorem rvis_l {l : List S36} (hl : Std l) (hn : l.length < 100000) (a : Int) : ∀ (n i : Nat) (acc : List S36), n = l.length - i → i ≤ l.length → acc.length ≤ i → moultref12_Visible.l0L l a acc (i : Int) = some (acc ++ (l.drop i).filter fun e => nn l a e && !e.f2) := by
  intro n
  induction n with
  | zero =>
    intro i acc h1 h2 h3
    rw [moultref12_Visible.l0L_eq, if_neg (by omega), List.drop_eq_nil_of_le (by omega)]
    simp
  | succ n ih =>
    intro i acc h1 h2 h3
    have h4 : i < l.length := by omega
    obtain ⟨r, e, hr⟩ := rnew hl hn a h4
    rw [moultref12_Visible.l0L_eq, if_pos (by omega), if_pos (by omega), e]
    simp only [Option.bind_some, wsucc h4 hn]
    rw [filter_drop h4]
    by_cases c : r = (i : Int)
    · rw [if_pos c, hr.mp c]
      by_cases d : (rd_T36 l (i : Int)).f2 = true
      · rw [if_pos d, d, ih (i + 1) acc (by omega) (by omega) (by omega)]
        simp
      · rw [if_neg d, if_pos (by omega), ih (i + 1) _ (by omega) (by omega) (by simp; omega)]
        change some (acc ++ [rd_T36 l (i : Int)] ++ _) = _
        simp [d]
    · rw [if_neg c, ih (i + 1) acc (by omega) (by omega) (by omega), Bool.eq_false_iff.mpr (fun h => c (hr.mpr h))]
      simp
theorem rvis {l : List S36} (hl : Std l) (hn : l.length < 100000) (a : Int) : moultref12_Visible.fL l a = some (vis l a) := by
  have := rvis_l hl hn a l.length 0 [] (by omega) (by omega) (by simp)
  rw [moultref12_Visible.fL_eq]
  exact this
/-! ### the document's Thin -/
theorem rthin_1 {l : List S36} (hl : Std l) (hn : l.length < 100000) (shots : List Int) (hs : shots.length < 100000) (b : Bool) (acc : List S36) {i : Nat} (hi : i < l.length) (ha : acc.length ≤ i) : ∀ (n q : Nat) (nd : Bool), n = shots.length - q → q ≤ shots.length →
    moultref12_Thin.l1L l shots b acc (i : Int) nd (q : Int) = moultref12_Thin.l0L l shots b (if (nd || (shots.drop q).any fun s => nn l s (rd_T36 l (i : Int))) = true then acc ++ [rd_T36 l (i : Int)] else acc) ((i + 1 : Nat) : Int) := by
  intro n
  induction n with
  | zero =>
    intro q nd h1 h2
    rw [moultref12_Thin.l1L_eq, if_neg (by omega), List.drop_eq_nil_of_le (by omega), wsucc hi hn]
    by_cases c : nd = true
    · rw [if_pos c, if_pos (by omega), if_pos (by omega), if_pos (by omega)]
      simp [c]
    · rw [if_neg c]
      simp [c]
  | succ n ih =>
    intro q nd h1 h2
    have h4 : q < shots.length := by omega
    have hd : shots.drop q = rd shots (q : Int) :: shots.drop (q + 1) := by
      rw [List.drop_eq_getElem_cons h4]
      simp [rd, h4]
    rw [moultref12_Thin.l1L_eq, if_pos (by omega), wsucc h4 hs]
    by_cases c : nd = true
    · rw [if_pos c, ih (q + 1) true (by omega) (by omega)]
      simp [c]
    · rw [if_neg c, if_pos (by omega), if_pos (by omega), if_pos (by omega)]
      obtain ⟨r, e, hr⟩ := rnew hl hn (rd shots (q : Int)) hi
      rw [e]
      simp only [Option.bind_some]
      rw [ih (q + 1) _ (by omega) (by omega), hd, List.any_cons]
      have : (r == (i : Int)) = nn l (rd shots (q : Int)) (rd_T36 l (i : Int)) := bool_ext (by rw [beq_iff_eq, hr])
      rw [this]
      simp [c]
theorem rthin_0 {l : List S36} (hl : Std l) (hn : l.length < 100000) (shots : List Int) (hs : shots.length < 100000) (b : Bool) : ∀ (n i : Nat) (acc : List S36), n = l.length - i → i ≤ l.length → acc.length ≤ i →
    moultref12_Thin.l0L l shots b acc (i : Int) = (if b = true then moultref12_Thin.l2L (acc ++ (l.drop i).filter (need l shots)) [] 0 else some (acc ++ (l.drop i).filter (need l shots))) := by
  intro n
  induction n with
  | zero =>
    intro i acc h1 h2 h3
    rw [moultref12_Thin.l0L_eq, if_neg (by omega), List.drop_eq_nil_of_le (by omega)]
    simp
  | succ n ih =>
    intro i acc h1 h2 h3
    have h4 : i < l.length := by omega
    obtain ⟨r, e, hr⟩ := rnew hl hn 4611686018427387904 h4
    rw [moultref12_Thin.l0L_eq, if_pos (by omega), if_pos (by omega), e]
    simp only [Option.bind_some]
    have h5 := rthin_1 hl hn shots hs b acc h4 h3 shots.length 0 (r == (i : Int)) (by omega) (by omega)
    rw [show (r == (i : Int)) = nn l 4611686018427387904 (rd_T36 l (i : Int)) from bool_ext (by rw [beq_iff_eq, hr])] at h5 ⊢
    rw [List.drop_zero] at h5
    refine h5.trans ?_
    have h6 : (nn l 4611686018427387904 (rd_T36 l (i : Int)) || shots.any fun s => nn l s (rd_T36 l (i : Int))) = need l shots (rd_T36 l (i : Int)) := rfl
    rw [h6, filter_drop h4]
    by_cases c : need l shots (rd_T36 l (i : Int)) = true
    · rw [if_pos c, if_pos c, ih (i + 1) _ (by omega) (by omega) (by simp; omega)]
      simp
    · rw [if_neg c, if_neg c, ih (i + 1) _ (by omega) (by omega) (by omega)]
      simp
/-- What is behind a place, of its key, is Dead. -/
theorem rends {l : List S36} (hl : Std l) (hn : l.length < 100000) {i : Nat} (hi : i < l.length) : ∀ (n q : Nat), n = l.length - q → i ≤ q → q ≤ l.length → (∀ j, i ≤ j → j < q → (rd_T36 l ((j : Nat) : Int)).f0 = (rd_T36 l (i : Int)).f0 ∧ (rd_T36 l ((j : Nat) : Int)).f2 = true) →
    moultref12_ends.l0L l (i : Int) (q : Int) = some (!kp l (rd_T36 l (i : Int))) := by
  have low : ∀ j, j < l.length → (rd_T36 l ((j : Nat) : Int)).f0 = (rd_T36 l (i : Int)).f0 → (rd_T36 l ((j : Nat) : Int)).f1 ≤ (rd_T36 l (i : Int)).f1 → i ≤ j := by
    intro j hj hk h1
    rcases Nat.lt_or_ge j i with h | h
    · have := lt_key (std_get hl h hi) hk; omega
    · exact h
  have fin : ∀ q, i ≤ q → q ≤ l.length → (∀ j, i ≤ j → j < q → (rd_T36 l ((j : Nat) : Int)).f0 = (rd_T36 l (i : Int)).f0 ∧ (rd_T36 l ((j : Nat) : Int)).f2 = true) → (q < l.length → (rd_T36 l (q : Int)).f0 ≠ (rd_T36 l (i : Int)).f0) → kp l (rd_T36 l (i : Int)) = false := by
    intro q h1 h2 h3 h4
    rw [Bool.eq_false_iff]
    intro hk
    rw [kp_iff] at hk
    obtain ⟨x, hx, hxk, hxl, hxd⟩ := hk
    obtain ⟨j, hj, rfl⟩ := mem_rd hx
    have h5 := low j hj hxk hxl
    rcases Nat.lt_or_ge j q with h6 | h6
    · rw [(h3 j h5 h6).2] at hxd; cases hxd
    · rcases Nat.eq_or_lt_of_le h6 with h7 | h7
      · exact h4 (by omega) (by rw [h7]; exact hxk)
      · rcases Nat.eq_or_lt_of_le h1 with h8 | h8
        · exact h4 (by omega) (by rw [h8])
        · exact h4 (by omega) (key_between (std_get hl h8 (by omega)) (std_get hl h7 hj) hxk.symm).symm
  intro n
  induction n with
  | zero =>
    intro q h1 h2 h3 h4
    rw [moultref12_ends.l0L_eq, if_neg (by omega), moultref12_ends.j1L_eq, if_neg (by simp), fin q h2 h3 h4 (by omega)]
    rfl
  | succ n ih =>
    intro q h1 h2 h3 h4
    have h5 : q < l.length := by omega
    rw [moultref12_ends.l0L_eq, if_pos (by omega), if_pos (by omega), if_pos (by omega), if_pos (by omega), moultref12_ends.j1L_eq]
    by_cases c : (rd_T36 l (q : Int)).f0 = (rd_T36 l (i : Int)).f0
    · rw [if_pos (by rw [beq_iff_eq, bytes_eq]; exact c), if_pos (by omega), if_pos (by omega)]
      by_cases d : (rd_T36 l (q : Int)).f2 = true
      · rw [if_pos d, wsucc h5 hn]
        exact ih (q + 1) (by omega) (by omega) (by omega) (fun j hj hj2 => by
          by_cases hq : j = q
          · rw [hq]; exact ⟨c, d⟩
          · exact h4 j hj (by omega))
      · rw [if_neg d]
        have : kp l (rd_T36 l (i : Int)) = true := by
          rw [kp_iff]
          refine ⟨_, rd_mem h5, c, ?_, by simpa using d⟩
          rcases Nat.eq_or_lt_of_le h2 with h8 | h8
          · rw [h8]; exact Int.le_refl _
          · exact Int.le_of_lt (lt_key (std_get hl h8 h5) c.symm)
        rw [this]
        rfl
    · rw [if_neg (by rw [beq_iff_eq, bytes_eq]; exact c), fin q h2 h3 h4 (fun _ => c)]
      rfl
theorem rthin_2 {l : List S36} (hl : Std l) (hn : l.length < 100000) : ∀ (n i : Nat) (acc : List S36), n = l.length - i → i ≤ l.length → acc.length ≤ i → moultref12_Thin.l2L l acc (i : Int) = some (acc ++ (l.drop i).filter (kp l)) := by
  intro n
  induction n with
  | zero =>
    intro i acc h1 h2 h3
    rw [moultref12_Thin.l2L_eq, if_neg (by omega), List.drop_eq_nil_of_le (by omega)]
    simp
  | succ n ih =>
    intro i acc h1 h2 h3
    have h4 : i < l.length := by omega
    rw [moultref12_Thin.l2L_eq, if_pos (by omega), moultref12_ends.fL_eq, rends hl hn h4 (l.length - i) i rfl (Nat.le_refl _) (by omega) (fun j hj hj2 => by omega)]
    simp only [Option.bind_some, wsucc h4 hn]
    rw [filter_drop h4]
    by_cases c : kp l (rd_T36 l (i : Int)) = true
    · rw [if_neg (by simp [c]), if_pos (by omega), if_pos (by omega), ih (i + 1) _ (by omega) (by omega) (by simp; omega)]
      simp [c]
    · rw [if_pos (by simp [c]), ih (i + 1) _ (by omega) (by omega) (by omega)]
      simp [c]
theorem rthin {l : List S36} (hl : Std l) (hn : l.length < 100000) (shots : List Int) (hs : shots.length < 100000) (b : Bool) : moultref12_Thin.fL l shots b = some (thin l shots b) := by
  have h := rthin_0 hl hn shots hs b l.length 0 [] (by omega) (by omega) (by simp)
  rw [moultref12_Thin.fL_eq]
  refine h.trans ?_
  simp only [List.drop_zero, List.nil_append]
  unfold thin lst
  split
  · have hf := List.length_filter_le (need l shots) l
    have h2 := rthin_2 (std_filter hl (need l shots)) (by omega) (l.filter (need l shots)).length 0 [] (by omega) (by omega) (by simp)
    exact h2
  · rfl
end Go.Proofs.Ythdoanbadhfhjaa.Mrg
