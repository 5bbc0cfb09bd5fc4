/- The plain laws of merge, part i: the program's Visible in closed form; both Sorted. -/
import Derived.Test.YthdoanbadhfhjaaPh
set_option linter.unusedVariables false
set_option linter.unusedSimpArgs false
namespace Go.Proofs.Ythdoanbadhfhjaa.Mrg
open Go.RowKit Go.Proofs.Ythdoanbadhfhjaa.PAll Go.Proofs.Ythdoanbadhfhjaa Go.Proofs.YthdoanbadhfhjaaW.PrintWords Go.Proofs.YthdoanbadhfhjaaW.PrintLast Go.Proofs.YthdoanbadhfhjaaW.PrintMore

/-! ### groups -/
theorem rd_take {l : List S36} {i n : Nat} (h : i < n) (hn : n ≤ l.length) : rd_T36 (l.take n) (i : Int) = rd_T36 l (i : Int) := by
  rw [rd_get (by rw [List.length_take]; omega), rd_get (by omega), List.getElem_take]
theorem groups_1 {l : List S36} (hn : l.length < 100000) (acc : List (List S36)) (ha : acc.length < 100000) : ∀ (d i : Nat), d = l.length - i → 1 ≤ i → i ≤ l.length → (∀ j, j < i → (rd_T36 l ((j : Nat) : Int)).f0 = (rd_T36 l 0).f0) →
    ∃ m, 1 ≤ m ∧ m ≤ l.length ∧ (∀ j, j < m → (rd_T36 l ((j : Nat) : Int)).f0 = (rd_T36 l 0).f0) ∧ (m < l.length → (rd_T36 l (m : Int)).f0 ≠ (rd_T36 l 0).f0) ∧ merge_groups.l1L l acc (i : Int) = merge_groups.l0L (l.drop m) (acc ++ [l.take m]) := by
  intro d
  induction d with
  | zero =>
    intro i h1 h2 h3 h4
    refine ⟨i, h2, h3, h4, by omega, ?_⟩
    rw [merge_groups.l1L_eq, if_neg (by omega), if_pos (by omega), if_pos (by omega), if_pos (by omega), Int.toNat_natCast]
  | succ d ih =>
    intro i h1 h2 h3 h4
    have h5 : i < l.length := by omega
    by_cases c : (rd_T36 l (i : Int)).f0 = (rd_T36 l 0).f0
    · obtain ⟨m, a1, a2, a3, a4, a5⟩ := ih (i + 1) (by omega) (by omega) (by omega) (fun j hj => by
        by_cases e : j = i
        · rw [e]; exact c
        · exact h4 j (by omega))
      refine ⟨m, a1, a2, a3, a4, ?_⟩
      rw [merge_groups.l1L_eq, if_pos (by omega), if_pos (by omega), if_pos (by omega), if_pos ((bytes_eq _ _).mpr c), wsucc h5 hn, a5]
    · refine ⟨i, h2, h3, h4, fun _ => c, ?_⟩
      rw [merge_groups.l1L_eq, if_pos (by omega), if_pos (by omega), if_pos (by omega), if_neg (fun h => c ((bytes_eq _ _).mp h)), if_pos (by omega), if_pos (by omega), Int.toNat_natCast]
theorem grp_key {l : List S36} {m : Nat} (hm : ∀ j, j < m → (rd_T36 l ((j : Nat) : Int)).f0 = (rd_T36 l 0).f0) (hml : m ≤ l.length) {x : S36} (hx : x ∈ l.take m) : x.f0 = (rd_T36 l 0).f0 := by
  obtain ⟨j, hj, rfl⟩ := mem_rd hx
  rw [List.length_take] at hj
  rw [rd_take (by omega) hml]
  exact hm j (by omega)
theorem groups_0 : ∀ (d : Nat) (l : List S36) (acc : List (List S36)), d = l.length → Std l → acc.length + l.length < 100000 → ∃ gs, Grp l gs ∧ merge_groups.l0L l acc = some (acc ++ gs) := by
  intro d
  induction d using Nat.strongRecOn with
  | ind d ih =>
    intro l acc hd hl hn
    by_cases h0 : l.length = 0
    · rw [List.eq_nil_of_length_eq_zero h0]
      refine ⟨[], .nil, ?_⟩
      rw [merge_groups.l0L_eq, if_neg (by simp), List.append_nil]
    · obtain ⟨m, a1, a2, a3, a4, a5⟩ := groups_1 (l := l) (by omega) acc (by omega) (l.length - 1) 1 (by omega) (by omega) (by omega) (fun j hj => by
        have : j = 0 := by omega
        rw [this]; rfl)
      obtain ⟨gs, hg, e⟩ := ih (l.length - m) (by omega) (l.drop m) (acc ++ [l.take m]) (by simp) (List.Pairwise.drop hl) (by simp; omega)
      refine ⟨l.take m :: gs, ?_, ?_⟩
      · have : Grp (l.take m ++ l.drop m) (l.take m :: gs) := by
          refine .cons ?_ (fun x hx y hy => by rw [grp_key a3 a2 hx, grp_key a3 a2 hy]) (fun x hx y hy => ?_) hg
          · intro e0
            have := congrArg List.length e0
            rw [List.length_take, List.length_nil] at this
            omega
          · rw [grp_key a3 a2 hx]
            obtain ⟨j, hj, rfl⟩ := mem_rd hy
            rw [List.length_drop] at hj
            have e1 : rd_T36 (l.drop m) (j : Int) = rd_T36 l ((m + j : Nat) : Int) := by
              rw [rd_get (by rw [List.length_drop]; omega), rd_get (by omega), List.getElem_drop]
            rw [e1]
            intro hk
            refine a4 (by omega) ?_
            rcases Nat.eq_or_lt_of_le (Nat.zero_le j) with hj0 | hj0
            · rw [← hj0, Nat.add_zero] at hk; exact hk.symm
            · have s1 := std_get hl (i := 0) (j := m) (by omega) (by omega)
              have s2 := std_get hl (i := m) (j := m + j) (by omega) (by omega)
              exact (key_between s1 s2 hk).symm
        rwa [List.take_append_drop] at this
      · rw [merge_groups.l0L_eq, if_pos (by omega), show ((1 : Int)) = ((1 : Nat) : Int) from rfl, a5, e]
        simp
theorem groups {l : List S36} (hl : Std l) (hn : l.length < 100000) : ∃ gs, Grp l gs ∧ merge_groups.fL l = some gs := by
  obtain ⟨gs, hg, e⟩ := groups_0 l.length l [] rfl hl (by simpa using hn)
  refine ⟨gs, hg, ?_⟩
  rw [merge_groups.fL_eq, e]
  rfl
/-! ### the program's newest -/
theorem pnew {g : List S36} (h0 : g ≠ []) (hn : g.length < 100000) (a : Int) : ∃ r : Int, merge_newest.f g a = some r ∧ ((r = -1 ∧ ∀ j, j < g.length → ¬ (rd_T36 g ((j : Nat) : Int)).f1 ≤ a) ∨
    ∃ b : Nat, r = (b : Int) ∧ b < g.length ∧ (rd_T36 g (b : Int)).f1 ≤ a ∧ ∀ j, j < b → ¬ (rd_T36 g ((j : Nat) : Int)).f1 ≤ a) := by
  have hpos : 0 < g.length := List.length_pos_iff.mpr h0
  unfold merge_newest.f
  rw [if_pos ⟨hpos, by omega⟩]
  have hb : ∀ j, j < g.length → g[j]! = rd_T36 g ((j : Nat) : Int) := by
    intro j hj
    rw [getElem!_pos g j hj, rd_get hj]
  by_cases h : ∃ b, b < g.length ∧ (rd_T36 g ((b : Nat) : Int)).f1 ≤ a
  · have hmin : ∃ b : Nat, b < g.length ∧ (rd_T36 g (b : Int)).f1 ≤ a ∧ ∀ j, j < b → ¬ (rd_T36 g ((j : Nat) : Int)).f1 ≤ a := by
      obtain ⟨b, hb1, hb2⟩ := h
      induction b using Nat.strongRecOn with
      | ind b ihb =>
        by_cases c : ∃ j, j < b ∧ (rd_T36 g ((j : Nat) : Int)).f1 ≤ a
        · obtain ⟨j, hj, hj2⟩ := c
          exact ihb j hj (by omega) hj2
        · exact ⟨b, hb1, hb2, fun j hj hj2 => c ⟨j, hj, hj2⟩⟩
    obtain ⟨b, hb1, hb2, hb3⟩ := hmin
    refine ⟨b, ?_, .inr ⟨b, rfl, hb1, hb2, hb3⟩⟩
    have e := Lib.idxBy_hit (fun (_ y : S36) => decide (y.f1 ≤ a)) g g.length b default hb1 (Nat.le_refl _) (by rw [hb b hb1]; simpa using hb2) (fun j hj => by rw [hb j (by omega)]; simpa using hb3 j hj)
    rw [List.take_of_length_le (Nat.le_refl _)] at e
    rw [e]
  · refine ⟨-1, ?_, .inl ⟨rfl, fun j hj hj2 => h ⟨j, hj, hj2⟩⟩⟩
    have e := Lib.idxBy_miss (fun (_ y : S36) => decide (y.f1 ≤ a)) g g.length default (fun j hj => by rw [hb j hj]; simpa using fun h2 => h ⟨j, hj, h2⟩)
    rw [List.take_of_length_le (Nat.le_refl _)] at e
    rw [e]
theorem pnew_nn {g : List S36} (hs : Std g) (h0 : g ≠ []) (hk : ∀ x ∈ g, ∀ y ∈ g, x.f0 = y.f0) (hn : g.length < 100000) (a : Int) : ∃ r : Int, merge_newest.f g a = some r ∧ -1 ≤ r ∧ r < g.length ∧ ∀ i, i < g.length → (r = ((i : Nat) : Int) ↔ nn g a (rd_T36 g ((i : Nat) : Int)) = true) := by
  obtain ⟨r, e, h⟩ := pnew h0 hn a
  refine ⟨r, e, ?_⟩
  rcases h with ⟨rfl, h⟩ | ⟨b, rfl, hb, ha, h⟩
  · refine ⟨by omega, by omega, fun i hi => ?_⟩
    rw [nn_iff]
    exact ⟨fun e => by omega, fun hnn => absurd hnn.1 (h i hi)⟩
  · refine ⟨by omega, by omega, fun i hi => ?_⟩
    rw [nn_iff]
    constructor
    · intro e2
      have e3 : b = i := by omega
      subst e3
      refine ⟨ha, fun x hx hxk hxa => ?_⟩
      obtain ⟨j, hj, rfl⟩ := mem_rd hx
      rcases Nat.lt_trichotomy j b with h1 | h1 | h1
      · exact absurd hxa (h j h1)
      · rw [h1]; exact Int.le_refl _
      · exact Int.le_of_lt (lt_key (std_get hs h1 hj) (hk _ (rd_mem hb) _ (rd_mem hj)))
    · intro hnn
      rcases Nat.lt_trichotomy b i with h1 | h1 | h1
      · have h2 := hnn.2 _ (rd_mem hb) (hk _ (rd_mem hb) _ (rd_mem hi)) ha
        have h3 := lt_key (std_get hs h1 hi) (hk _ (rd_mem hb) _ (rd_mem hi))
        omega
      · rw [h1]
      · exact absurd hnn.1 (h i h1)
/-- Of a group at most one is seen. -/
theorem filter_one {g : List S36} {p : S36 → Bool} {b : Nat} (hb : b < g.length) (h : ∀ i, i < g.length → (p (rd_T36 g ((i : Nat) : Int)) = true → i = b)) : g.filter p = if p (rd_T36 g (b : Int)) = true then [rd_T36 g (b : Int)] else [] := by
  have e1 : (g.take b).filter p = [] := by
    rw [List.filter_eq_nil_iff]
    intro x hx
    obtain ⟨j, hj, rfl⟩ := mem_rd hx
    rw [List.length_take] at hj
    rw [rd_take (by omega) (by omega)]
    intro hp
    have := h j (by omega) hp
    omega
  have e2 : (g.drop (b + 1)).filter p = [] := by
    rw [List.filter_eq_nil_iff]
    intro x hx
    obtain ⟨j, hj, rfl⟩ := mem_rd hx
    rw [List.length_drop] at hj
    have e1 : rd_T36 (g.drop (b + 1)) (j : Int) = rd_T36 g ((b + 1 + j : Nat) : Int) := by
      rw [rd_get (by rw [List.length_drop]; omega), rd_get (by omega), List.getElem_drop]
    rw [e1]
    intro hp
    have := h (b + 1 + j) (by omega) hp
    omega
  conv => lhs; rw [← List.take_append_drop b g]
  rw [List.filter_append, e1, filter_drop hb, e2]
  simp
theorem pvis_l (a : Int) : ∀ (gs : List (List S36)) (l : List S36), Grp l gs → Std l → ∀ (pre : List (List S36)) (acc : List S36), pre.length + gs.length < 100000 → acc.length + l.length < 100000 →
    merge_Visible.l0L a acc (pre ++ gs) ((pre ++ gs).length : Int) (pre.length : Int) = some (acc ++ vis l a) := by
  intro gs l hg
  induction hg with
  | nil =>
    intro hl pre acc hn ha
    rw [merge_Visible.l0L_eq, if_neg (by simp)]
    simp [vis]
  | @cons g l gs h0 hk hd hg ih =>
    intro hl pre acc hn ha
    have hsg : Std g := (List.pairwise_append.mp hl).1
    have hsl : Std l := (List.pairwise_append.mp hl).2.1
    simp only [List.length_cons, List.length_append] at hn ha
    obtain ⟨r, e, r1, r2, hr⟩ := pnew_nn hsg h0 hk (by omega) a
    have hrd : rd_L4 (pre ++ g :: gs) (pre.length : Int) = g := by
      unfold rd_L4
      simp
    have hw : wrap64 ((pre.length : Int) + 1) = ((pre.length + 1 : Nat) : Int) := by rw [w64 (by omega) (by omega)]; omega
    have step : ∀ acc2 : List S36, acc2.length + l.length < 100000 → merge_Visible.l0L a acc2 (pre ++ g :: gs) ((pre ++ g :: gs).length : Int) ((pre.length + 1 : Nat) : Int) = some (acc2 ++ vis l a) := by
      intro acc2 h2
      have h3 := ih hsl (pre ++ [g]) acc2 (by simp; omega) h2
      rw [List.append_assoc, List.singleton_append] at h3
      rw [show pre.length + 1 = (pre ++ [g]).length by simp]
      exact h3
    rw [merge_Visible.l0L_eq, if_pos (by simp; omega), if_pos (by omega), if_pos (by simp; omega), hrd, e]
    simp only [Option.bind_some, hw]
    rw [vis_append hd]
    by_cases c : r ≥ 0
    · obtain ⟨b, rfl⟩ : ∃ b : Nat, r = (b : Int) := ⟨r.toNat, by omega⟩
      have hb : b < g.length := by omega
      have h3 : vis g a = if (nn g a (rd_T36 g (b : Int)) && !(rd_T36 g (b : Int)).f2) = true then [rd_T36 g (b : Int)] else [] := filter_one hb (fun i hi hp => by
        rw [Bool.and_eq_true] at hp
        have := (hr i hi).mpr hp.1
        omega)
      rw [if_pos c, if_pos c, if_pos r2, h3, (hr b hb).mp rfl]
      by_cases d : (rd_T36 g (b : Int)).f2 = true
      · rw [if_pos d, step acc (by omega), d]
        simp
      · rw [if_neg d, if_pos (by omega)]
        have := step (acc ++ [rd_T36 g (b : Int)]) (by simp; omega)
        refine this.trans ?_
        simp [d]
    · rw [if_neg c, step acc (by omega)]
      have h3 : vis g a = [] := by
        unfold vis
        rw [List.filter_eq_nil_iff]
        intro x hx
        obtain ⟨j, hj, rfl⟩ := mem_rd hx
        rw [Bool.and_eq_true]
        intro hp
        have := (hr j hj).mpr hp.1
        omega
      rw [h3]
      rfl
theorem pvis {l : List S36} (hl : Std l) (hn : l.length < 100000) (a : Int) : merge_Visible.fL l a = some (vis l a) := by
  obtain ⟨gs, hg, e⟩ := groups hl hn
  rw [merge_Visible.fL_eq, e]
  simp only [Option.bind_some]
  have hlen : gs.length ≤ l.length := by
    clear e
    induction hg with
    | nil => simp
    | @cons g l gs h0 _ _ _ ih =>
      have := List.length_pos_iff.mpr h0
      have := ih (List.pairwise_append.mp hl).2.1 (by rw [List.length_append] at hn; omega)
      simp only [List.length_cons, List.length_append]
      omega
  have := pvis_l a gs l hg hl [] [] (by simp; omega) (by simpa using hn)
  simpa using this
end Go.Proofs.Ythdoanbadhfhjaa.Mrg
