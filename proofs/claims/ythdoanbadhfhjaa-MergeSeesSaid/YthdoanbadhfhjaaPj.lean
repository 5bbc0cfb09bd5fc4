/- The plain laws of merge, part j: the program's Thin in closed form. -/
import Derived.Test.YthdoanbadhfhjaaPi
set_option linter.unusedVariables false
set_option linter.unusedSimpArgs false
namespace Go.Proofs.Ythdoanbadhfhjaa.Mrg
open Go.RowKit Go.Proofs.Ythdoanbadhfhjaa.PAll Go.Proofs.Ythdoanbadhfhjaa Go.Proofs.YthdoanbadhfhjaaW.PrintWords Go.Proofs.YthdoanbadhfhjaaW.PrintLast Go.Proofs.YthdoanbadhfhjaaW.PrintMore

theorem compact_up (zs : List Int) (h : zs.Pairwise (· ≤ ·)) : ∀ m, m ≤ zs.length → (Lib.compactUpTo zs.toArray m).Pairwise (· < ·) ∧ (∀ x ∈ Lib.compactUpTo zs.toArray m, ∃ j, j < m ∧ x = zs.toArray[j]!) ∧ ∀ j, j < m → zs.toArray[j]! ∈ Lib.compactUpTo zs.toArray m := by
  intro m
  have get : ∀ j, j < zs.length → zs.toArray[j]! = zs[j]! := by intro j hj; simp
  have le : ∀ i j, i ≤ j → j < zs.length → zs.toArray[i]! ≤ zs.toArray[j]! := by
    intro i j hi hj
    rw [get i (by omega), get j hj, getElem!_pos zs i (by omega), getElem!_pos zs j hj]
    rcases Nat.eq_or_lt_of_le hi with e | e
    · subst e; exact Int.le_refl _
    · exact List.pairwise_iff_getElem.mp h i j (by omega) hj e
  induction m with
  | zero => exact fun _ => ⟨by simp [Lib.compactUpTo], by simp [Lib.compactUpTo], fun j hj => by omega⟩
  | succ m ih =>
    intro hm
    obtain ⟨h1, h2, h3⟩ := ih (by omega)
    rw [Lib.compactUpTo_succ]
    by_cases k : Lib.keeps zs.toArray m = true
    · rw [if_pos k]
      refine ⟨List.pairwise_append.mpr ⟨h1, by simp, fun x hx y hy => ?_⟩, fun x hx => ?_, fun j hj => ?_⟩
      · rw [List.mem_singleton.mp hy]
        obtain ⟨j, hj, rfl⟩ := h2 x hx
        unfold Lib.keeps at k
        have k := of_decide_eq_true k
        rcases k with k | k
        · omega
        · have a1 := le j (m - 1) (by omega) (by omega)
          have a2 := le (m - 1) m (by omega) (by omega)
          omega
      · rcases List.mem_append.mp hx with hx | hx
        · obtain ⟨j, hj, e⟩ := h2 x hx
          exact ⟨j, by omega, e⟩
        · exact ⟨m, by omega, List.mem_singleton.mp hx⟩
      · rcases Nat.eq_or_lt_of_le (Nat.le_of_lt_succ hj) with e | e
        · rw [e]; simp
        · exact List.mem_append_left _ (h3 j e)
    · rw [if_neg k, List.append_nil]
      refine ⟨h1, fun x hx => ?_, fun j hj => ?_⟩
      · obtain ⟨j, hj, e⟩ := h2 x hx
        exact ⟨j, by omega, e⟩
      · rcases Nat.eq_or_lt_of_le (Nat.le_of_lt_succ hj) with e | e
        · unfold Lib.keeps at k
          have k := fun h => k (decide_eq_true h)
          have k0 : m ≠ 0 := fun h => k (.inl h)
          have k1 : zs.toArray[m]! = zs.toArray[m - 1]! := Classical.byContradiction fun h => k (.inr h)
          rw [e, k1]
          exact h3 (m - 1) (by omega)
        · exact h3 j e
theorem compact_sorted (zs : List Int) (h : zs.Pairwise (· ≤ ·)) : (Lib.compact zs).Pairwise (· < ·) ∧ ∀ x, x ∈ Lib.compact zs ↔ x ∈ zs := by
  obtain ⟨h1, h2, h3⟩ := compact_up zs h zs.length (Nat.le_refl _)
  refine ⟨h1, fun x => ⟨fun hx => ?_, fun hx => ?_⟩⟩
  · obtain ⟨j, hj, rfl⟩ := h2 x hx
    rw [show zs.toArray[j]! = zs[j]! by simp, getElem!_pos zs j hj]
    exact List.getElem_mem hj
  · obtain ⟨j, hj, rfl⟩ := List.mem_iff_getElem.mp hx
    have := h3 j hj
    rw [show zs.toArray[j]! = zs[j]! by simp, getElem!_pos zs j hj] at this
    exact this
/-- Places that are sorted, each once. -/
theorem places_ok (ps : List Int) (hn : ps.length < 1000000) : ∃ qs : List Int, ((slices_Sort_int_int.f ps).bind fun t => slices_Compact_int_int.f t) = some qs ∧ qs.Pairwise (· < ·) ∧ ∀ x, x ∈ qs ↔ x ∈ ps := by
  unfold slices_Sort_int_int.f slices_Compact_int_int.f
  rw [if_pos (by omega)]
  simp only [Option.bind_some, List.length_mergeSort]
  rw [if_pos (by omega)]
  have hs : (ps.mergeSort fun x y => decide (x ≤ y)).Pairwise (· ≤ ·) := by
    have := List.pairwise_mergeSort (le := fun x y : Int => decide (x ≤ y)) (by simp; omega) (by simp; omega) ps
    exact this.imp (fun h => by simpa using h)
  obtain ⟨h1, h2⟩ := compact_sorted _ hs
  exact ⟨_, rfl, h1, fun x => by rw [h2, List.mem_mergeSort]⟩
theorem rdi_get {l : List Int} {i : Nat} (h : i < l.length) : rd l (i : Int) = l[i] := by simp [rd, h]
/-- The places' list, over the numbers that are asked for. -/
theorem thin_1 {g : List S36} (hs : Std g) (h0 : g ≠ []) (hk : ∀ x ∈ g, ∀ y ∈ g, x.f0 = y.f0) (hn : g.length < 100000) (shots : List Int) (hsn : shots.length < 100000) (b : Bool) (out : List S36) (gs : List (List S36)) (n i : Int) : ∀ (d q : Nat) (ps : List Int), d = shots.length - q → q ≤ shots.length → ps.length ≤ q + 1 →
    (∀ x, x ∈ ps ↔ ∃ j : Nat, j < g.length ∧ x = (j : Int) ∧ (j = 0 ∨ ∃ s ∈ shots.take q, nn g s (rd_T36 g (j : Int)) = true)) →
    ∃ P : List Int, P.length < 1000000 ∧ (∀ x, x ∈ P ↔ ∃ j : Nat, j < g.length ∧ x = (j : Int) ∧ (j = 0 ∨ ∃ s ∈ shots, nn g s (rd_T36 g (j : Int)) = true)) ∧
      merge_Thin.l1L shots b out g ps gs n i shots (shots.length : Int) (q : Int) = ((slices_Sort_int_int.f P).bind fun t => (slices_Compact_int_int.f t).bind fun t2 => merge_Thin.l2L shots b out g t2 gs n i) := by
  intro d
  induction d with
  | zero =>
    intro q ps h1 h2 h3 h4
    refine ⟨ps, by omega, ?_, ?_⟩
    · rw [List.take_of_length_le (by omega)] at h4
      exact h4
    · rw [merge_Thin.l1L_eq, if_neg (by omega)]
  | succ d ih =>
    intro q ps h1 h2 h3 h4
    have h5 : q < shots.length := by omega
    obtain ⟨r, e, r1, r2, hr⟩ := pnew_nn hs h0 hk hn (rd shots (q : Int))
    have ht : shots.take (q + 1) = shots.take q ++ [rd shots (q : Int)] := by
      rw [rdi_get h5, List.take_succ_eq_append_getElem h5]
    rw [merge_Thin.l1L_eq, if_pos (by omega), if_pos (by omega), if_pos (by omega), e]
    simp only [Option.bind_some]
    rw [wsucc h5 hsn]
    by_cases c : r ≥ 0
    · obtain ⟨z, rfl⟩ : ∃ z : Nat, r = (z : Int) := ⟨r.toNat, by omega⟩
      rw [if_pos c, if_pos (by omega)]
      refine ih (q + 1) (ps ++ [(z : Int)]) (by omega) (by omega) (by simp; omega) (fun x => ?_)
      rw [List.mem_append, List.mem_singleton, h4, ht]
      simp only [List.mem_append, List.mem_singleton]
      constructor
      · rintro (⟨j, hj, rfl, h⟩ | rfl)
        · refine ⟨j, hj, rfl, ?_⟩
          rcases h with h | ⟨s, hs1, hs2⟩
          · exact .inl h
          · exact .inr ⟨s, .inl hs1, hs2⟩
        · exact ⟨z, by omega, rfl, .inr ⟨_, .inr rfl, (hr z (by omega)).mp rfl⟩⟩
      · rintro ⟨j, hj, rfl, h⟩
        rcases h with h | ⟨s, hs1 | rfl, hs2⟩
        · exact .inl ⟨j, hj, rfl, .inl h⟩
        · exact .inl ⟨j, hj, rfl, .inr ⟨s, hs1, hs2⟩⟩
        · exact .inr ((hr j hj).mpr hs2).symm
    · rw [if_neg c]
      refine ih (q + 1) ps (by omega) (by omega) (by omega) (fun x => ?_)
      rw [h4, ht]
      simp only [List.mem_append, List.mem_singleton]
      constructor
      · rintro ⟨j, hj, rfl, h⟩
        refine ⟨j, hj, rfl, ?_⟩
        rcases h with h | ⟨s, hs1, hs2⟩
        · exact .inl h
        · exact .inr ⟨s, .inl hs1, hs2⟩
      · rintro ⟨j, hj, rfl, h⟩
        refine ⟨j, hj, rfl, ?_⟩
        rcases h with h | ⟨s, hs1 | rfl, hs2⟩
        · exact .inl h
        · exact .inr ⟨s, hs1, hs2⟩
        · have := (hr j hj).mpr hs2
          omega
theorem thin_3 {g : List S36} (shots : List Int) (b : Bool) (gs : List (List S36)) (n : Int) (i : Nat) (hi : i < 100000) (qs : List Int) (hq : qs.length < 100000) (hb : ∀ x ∈ qs, ∃ j : Nat, j < g.length ∧ x = (j : Int)) : ∀ (d q : Nat) (out : List S36), d = qs.length - q → q ≤ qs.length → out.length + (qs.length - q) < 300000 →
    merge_Thin.l3L shots b out g gs n (i : Int) qs (qs.length : Int) (q : Int) = merge_Thin.l0L shots b (out ++ (qs.drop q).map (rd_T36 g)) gs n ((i + 1 : Nat) : Int) := by
  intro d
  induction d with
  | zero =>
    intro q out h1 h2 h3
    rw [merge_Thin.l3L_eq, if_neg (by omega), List.drop_eq_nil_of_le (by omega), show wrap64 ((i : Int) + 1) = ((i + 1 : Nat) : Int) by rw [w64 (by omega) (by omega)]; omega]
    simp
  | succ d ih =>
    intro q out h1 h2 h3
    have h5 : q < qs.length := by omega
    obtain ⟨j, hj, e⟩ := hb (rd qs (q : Int)) (by rw [rdi_get h5]; exact List.getElem_mem h5)
    rw [merge_Thin.l3L_eq, if_pos (by omega), if_pos (by omega), if_pos (by omega), if_pos (by rw [e]; omega), if_pos (by rw [e]; omega), if_pos (by omega), wsucc h5 hq]
    have := ih (q + 1) (out ++ [rd_T36 g (rd qs (q : Int))]) (by omega) (by omega) (by simp; omega)
    refine this.trans ?_
    rw [List.drop_eq_getElem_cons h5, ← rdi_get h5]
    simp
theorem thin_2 {g : List S36} (hs : Std g) (hk : ∀ x ∈ g, ∀ y ∈ g, x.f0 = y.f0) (shots : List Int) (b : Bool) (gs : List (List S36)) (n : Int) (i : Nat) (hi : i < 100000) (out : List S36) (ho : out.length < 100000) : ∀ (d : Nat) (qs : List Int), d = qs.length → d < 100000 → qs.Pairwise (· < ·) → (∀ x ∈ qs, ∃ j : Nat, j < g.length ∧ x = (j : Int)) →
    merge_Thin.l2L shots b out g qs gs n (i : Int) = merge_Thin.l0L shots b (out ++ lst b (qs.map (rd_T36 g))) gs n ((i + 1 : Nat) : Int) := by
  have hstd : ∀ qs : List Int, qs.Pairwise (· < ·) → (∀ x ∈ qs, ∃ j : Nat, j < g.length ∧ x = (j : Int)) → Std (qs.map (rd_T36 g)) := by
    intro qs h1 h2
    unfold Std
    rw [List.pairwise_map]
    refine h1.imp_of_mem (fun {a c} ha hc hac => ?_)
    obtain ⟨j, hj, rfl⟩ := h2 a ha
    obtain ⟨j2, hj2, rfl⟩ := h2 c hc
    exact std_get hs (by omega) hj2
  have fin : ∀ qs : List Int, qs.length < 100000 → (∀ x ∈ qs, ∃ j : Nat, j < g.length ∧ x = (j : Int)) → merge_Thin.j3L shots b out g qs gs n (i : Int) = merge_Thin.l0L shots b (out ++ qs.map (rd_T36 g)) gs n ((i + 1 : Nat) : Int) := by
    intro qs h1 h2
    rw [merge_Thin.j3L_eq]
    have := thin_3 shots b gs n i hi qs h1 h2 qs.length 0 out (by omega) (by omega) (by omega)
    simpa using this
  intro d
  induction d with
  | zero =>
    intro qs h1 h2 h3 h4
    have h5 : qs = [] := List.eq_nil_of_length_eq_zero h1.symm
    subst h5
    have e0 : merge_Thin.l2L shots b out g [] gs n (i : Int) = merge_Thin.j3L shots b out g [] gs n (i : Int) := by
      rw [merge_Thin.l2L_eq]
      split
      · rw [if_neg (by simp)]
      · rfl
    rw [e0, fin [] (by simp) (by simp)]
    have : lst b ([].map (rd_T36 g)) = [] := by unfold lst; simp
    rw [this]
    simp
  | succ d ih =>
    intro qs h1 h2 h3 h4
    cases b with
    | false =>
      rw [merge_Thin.l2L_eq, if_neg (by simp), fin qs (by omega) h4]
      simp [lst]
    | true =>
      obtain ⟨q0, x, rfl⟩ : ∃ q0 x, qs = q0 ++ [x] := ⟨qs.dropLast, qs.getLast (by intro e; rw [e] at h1; simp at h1), (List.dropLast_concat_getLast _).symm⟩
      rw [List.length_append, List.length_singleton] at h1
      obtain ⟨j, hj, rfl⟩ := h4 x (by simp)
      have e1 : wrap64 (((q0 ++ [(j : Int)]).length : Int) - 1) = (q0.length : Int) := by
        rw [List.length_append, List.length_singleton, w64 (by omega) (by omega)]; omega
      have e2 : rd (q0 ++ [(j : Int)]) (q0.length : Int) = (j : Int) := by rw [rdi_get (by simp)]; simp
      have s1 := hstd _ h3 h4
      rw [List.map_append, List.map_singleton] at s1
      have k1 : ∀ y ∈ q0.map (rd_T36 g), y.f0 = (rd_T36 g (j : Int)).f0 := by
        intro y hy
        obtain ⟨z, hz, rfl⟩ := List.mem_map.mp hy
        obtain ⟨j2, hj2, rfl⟩ := h4 z (List.mem_append_left _ hz)
        exact hk _ (rd_mem hj2) _ (rd_mem hj)
      rw [merge_Thin.l2L_eq, if_pos rfl, e1, e2, if_pos (by simp <;> omega), if_pos (by omega), if_pos (by simp <;> omega), if_pos (by omega), if_pos (by omega)]
      rw [List.map_append, List.map_singleton]
      by_cases c : (rd_T36 g (j : Int)).f2 = true
      · rw [if_pos c, if_pos (by simp <;> omega), lst_snoc_dead s1 k1 c]
        have e3 : (q0 ++ [(j : Int)]).take ((q0.length : Int)).toNat = q0 := by simp
        rw [e3]
        exact ih q0 (by omega) (by omega) (List.pairwise_append.mp h3).1 (fun x hx => h4 x (List.mem_append_left _ hx))
      · rw [if_neg c, lst_snoc_live s1 k1 (by simpa using c), fin _ (by simp; omega) h4]
        simp
theorem thin_l (shots : List Int) (hsn : shots.length < 100000) (b : Bool) : ∀ (gs : List (List S36)) (l : List S36), Grp l gs → Std l → (∀ x ∈ l, x.f1 ≤ 4611686018427387904) → ∀ (pre : List (List S36)) (out : List S36), pre.length + gs.length < 100000 → out.length + l.length < 100000 →
    merge_Thin.l0L shots b out (pre ++ gs) ((pre ++ gs).length : Int) (pre.length : Int) = some (out ++ thin l shots b) := by
  intro gs l hg
  induction hg with
  | nil =>
    intro hl hbig pre out hn ha
    rw [merge_Thin.l0L_eq, if_neg (by simp)]
    simp [thin, lst]
  | @cons g l gs h0 hk hd hg ih =>
    intro hl hbig pre out hn ha
    have hsg : Std g := (List.pairwise_append.mp hl).1
    have hsl : Std l := (List.pairwise_append.mp hl).2.1
    simp only [List.length_cons, List.length_append] at hn ha
    have hpos := List.length_pos_iff.mpr h0
    have hrd : rd_L4 (pre ++ g :: gs) (pre.length : Int) = g := by
      unfold rd_L4
      simp
    have big : ∀ j : Nat, j < g.length → (nn g 4611686018427387904 (rd_T36 g (j : Int)) = true ↔ j = 0) := by
      intro j hj
      rw [nn_iff]
      constructor
      · intro h
        rcases Nat.eq_or_lt_of_le (Nat.zero_le j) with e | e
        · exact e.symm
        · have a1 := h.2 _ (rd_mem (i := 0) hpos) (hk _ (rd_mem hpos) _ (rd_mem hj)) (hbig _ (List.mem_append_left _ (rd_mem hpos)))
          have a2 := lt_key (std_get hsg e hj) (hk _ (rd_mem hpos) _ (rd_mem hj))
          omega
      · rintro rfl
        refine ⟨hbig _ (List.mem_append_left _ (rd_mem hpos)), fun x hx _ _ => ?_⟩
        obtain ⟨j2, hj2, rfl⟩ := mem_rd hx
        rcases Nat.eq_or_lt_of_le (Nat.zero_le j2) with e | e
        · rw [← e]; exact Int.le_refl _
        · exact Int.le_of_lt (lt_key (std_get hsg e hj2) (hk _ (rd_mem hpos) _ (rd_mem hj2)))
    obtain ⟨P, hP1, hP2, e1⟩ := thin_1 hsg h0 hk (by omega) shots hsn b out (pre ++ g :: gs) ((pre ++ g :: gs).length : Int) (pre.length : Int) shots.length 0 [0] (by omega) (by omega) (by simp) (fun x => by
      simp only [List.mem_singleton, List.take_zero, List.not_mem_nil, false_and, exists_false, or_false]
      constructor
      · rintro rfl; exact ⟨0, hpos, rfl, rfl⟩
      · rintro ⟨j, _, rfl, rfl⟩; rfl)
    obtain ⟨qs, e2, hq1, hq2⟩ := places_ok P hP1
    have hq3 : ∀ x ∈ qs, ∃ j : Nat, j < g.length ∧ x = (j : Int) := by
      intro x hx
      obtain ⟨j, hj, e, _⟩ := (hP2 x).mp ((hq2 x).mp hx)
      exact ⟨j, hj, e⟩
    have hmap : qs.map (rd_T36 g) = g.filter (need g shots) := by
      refine std_ext ?_ (std_filter hsg _) (fun x => ?_)
      · unfold Std
        rw [List.pairwise_map]
        refine hq1.imp_of_mem (fun {a c} ha hc hac => ?_)
        obtain ⟨j, hj, rfl⟩ := hq3 a ha
        obtain ⟨j2, hj2, rfl⟩ := hq3 c hc
        exact std_get hsg (by omega) hj2
      · rw [List.mem_map, List.mem_filter, need_iff]
        constructor
        · rintro ⟨z, hz, rfl⟩
          obtain ⟨j, hj, rfl, h⟩ := (hP2 z).mp ((hq2 z).mp hz)
          refine ⟨rd_mem hj, ?_⟩
          rcases h with h | ⟨s, h1, h2⟩
          · exact .inl (nn_iff.mp ((big j hj).mpr h))
          · exact .inr ⟨s, h1, nn_iff.mp h2⟩
        · rintro ⟨hx, h⟩
          obtain ⟨j, hj, rfl⟩ := mem_rd hx
          refine ⟨(j : Int), (hq2 _).mpr ((hP2 _).mpr ⟨j, hj, rfl, ?_⟩), rfl⟩
          rcases h with h | ⟨s, h1, h2⟩
          · exact .inl ((big j hj).mp (nn_iff.mpr h))
          · exact .inr ⟨s, h1, nn_iff.mpr h2⟩
    have hql : qs.length ≤ g.length := by
      have := congrArg List.length hmap
      rw [List.length_map] at this
      rw [this]
      exact List.length_filter_le _ _
    have e3 := thin_2 hsg hk shots b (pre ++ g :: gs) ((pre ++ g :: gs).length : Int) pre.length (by omega) out (by omega) qs.length qs rfl (by omega) hq1 hq3
    rw [hmap] at e3
    have hstep : merge_Thin.l0L shots b out (pre ++ g :: gs) ((pre ++ g :: gs).length : Int) (pre.length : Int) = merge_Thin.l0L shots b (out ++ thin g shots b) (pre ++ g :: gs) ((pre ++ g :: gs).length : Int) ((pre.length + 1 : Nat) : Int) := by
      rw [merge_Thin.l0L_eq, if_pos (by simp; omega), if_pos (by omega), if_pos (by simp; omega), hrd]
      refine e1.trans ?_
      rw [show ((slices_Sort_int_int.f P).bind fun t => (slices_Compact_int_int.f t).bind fun t2 => merge_Thin.l2L shots b out g t2 (pre ++ g :: gs) ((pre ++ g :: gs).length : Int) (pre.length : Int)) = ((slices_Sort_int_int.f P).bind fun t => slices_Compact_int_int.f t).bind (fun t2 => merge_Thin.l2L shots b out g t2 (pre ++ g :: gs) ((pre ++ g :: gs).length : Int) (pre.length : Int)) from (Option.bind_assoc _ _ _).symm, e2]
      simp only [Option.bind_some]
      exact e3
    have hgl := thin_length g shots b
    have h3 := ih hsl (fun x hx => hbig x (List.mem_append_right _ hx)) (pre ++ [g]) (out ++ thin g shots b) (by simp; omega) (by simp; omega)
    rw [List.append_assoc, List.singleton_append] at h3
    rw [hstep, show pre.length + 1 = (pre ++ [g]).length by simp]
    refine h3.trans ?_
    rw [thin_append hd, List.append_assoc]
theorem grp_len {l : List S36} {gs : List (List S36)} (hg : Grp l gs) : gs.length ≤ l.length := by
  induction hg with
  | nil => simp
  | @cons g l gs h0 _ _ _ ih =>
    have := List.length_pos_iff.mpr h0
    simp only [List.length_cons, List.length_append]
    omega
theorem pthin {l : List S36} (hl : Std l) (hn : l.length < 100000) (hbig : ∀ x ∈ l, x.f1 ≤ 4611686018427387904) (shots : List Int) (hsn : shots.length < 100000) (b : Bool) : merge_Thin.fL l shots b = some (thin l shots b) := by
  obtain ⟨gs, hg, e⟩ := groups hl hn
  rw [merge_Thin.fL_eq, e]
  simp only [Option.bind_some]
  have := grp_len hg
  have := thin_l shots hsn b gs l hg hl hbig [] [] (by simp; omega) (by simpa using hn)
  simpa using this
end Go.Proofs.Ythdoanbadhfhjaa.Mrg
