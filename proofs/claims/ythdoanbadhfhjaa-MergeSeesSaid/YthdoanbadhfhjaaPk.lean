/- The plain laws of merge, part k: the chapter's examples hold. -/
import Derived.Test.YthdoanbadhfhjaaPj
set_option linter.unusedVariables false
set_option linter.unusedSimpArgs false
namespace Go.Proofs.Ythdoanbadhfhjaa.Mrg
open Go.RowKit Go.Proofs.Ythdoanbadhfhjaa.PAll Go.Proofs.Ythdoanbadhfhjaa Go.Proofs.YthdoanbadhfhjaaW.PrintWords Go.Proofs.YthdoanbadhfhjaaW.PrintLast Go.Proofs.YthdoanbadhfhjaaW.PrintMore

theorem same_L (l : List S36) (hn : l.length < 100000) : moultlaw12_same.fL l l = some true := (moultlaw12_same.f_lim _ _).of_ev (same_ev l hn)
theorem merge_L {L : List (List S36)} (hn : L.length < 100000) (hs : ∀ l ∈ L, Std l) (hk : L.flatten.length < 100000) : merge_Merge.fL L = some (row L.flatten) := (merge_Merge.f_lim _).of_ev (merge_ev hn hs hk)
theorem rmerge_L {L : List (List S36)} (hL : L.length < 100000) (hf : ∀ x ∈ L.flatten, Fit x) (hn : L.flatten.length < 100000) : moultref12_Merge.fL L = some (row L.flatten) := (moultref12_Merge.f_lim _).of_ev (rmerge_ev hL hf hn)
theorem less_L (a b : S36) : table_Less.fL a.f0 a.f1 a.f2 a.f3 b.f0 b.f1 b.f2 b.f3 = some (lt a b) := (table_Less.f_lim _ _ _ _ _ _ _ _).of_ev (less_ev a b)
theorem small_L (l : List S36) : ∃ b, moultlaw12_small.fL l = some b ∧ (b = true → l.length ≤ 60 ∧ ∀ x ∈ l, Sm x) := by
  obtain ⟨b, h, g⟩ := small_ev l
  exact ⟨b, (moultlaw12_small.f_lim _).of_ev h, g⟩
theorem rows_L (L : List (List S36)) : ∃ r b, moultlaw12_rows.fL L = some (r, b) ∧ (b = true → r.length = L.length ∧ r.length ≤ 8 ∧ ∀ l ∈ r, Good l) := by
  obtain ⟨r, b, h, g⟩ := rows_ev L
  exact ⟨r, b, (moultlaw12_rows.f_lim _).of_ev h, g⟩
/-! ### Sorted -/
theorem wpred {i n : Nat} (h0 : 1 ≤ i) (h : i ≤ n) (hn : n < 100000) : wrap64 ((i : Int) - 1) = ((i - 1 : Nat) : Int) := by rw [w64 (by omega) (by omega)]; omega
theorem psorted_l {l : List S36} (hn : l.length < 100000) : ∀ (d i : Nat), d = l.length - i → 1 ≤ i → ∃ b, merge_Sorted.l0L l (i : Int) = some b ∧ (Std l → b = true) := by
  intro d
  induction d with
  | zero =>
    intro i h1 h2
    refine ⟨true, ?_, fun _ => rfl⟩
    · rw [merge_Sorted.l0L_eq, if_neg (by omega)]
  | succ d ih =>
    intro i h1 h2
    have h3 : i < l.length := by omega
    obtain ⟨b, e1, e3⟩ := ih (i + 1) (by omega) (by omega)
    by_cases c : lt (rd_T36 l ((i - 1 : Nat) : Int)) (rd_T36 l (i : Int)) = true
    · refine ⟨b, ?_, e3⟩
      · rw [merge_Sorted.l0L_eq, wpred h2 (Nat.le_refl _) (by omega), if_pos (by omega), if_pos (by omega), if_pos (by omega), if_pos (by omega), less_L]
        simp only [Option.bind_some]
        rw [if_pos c, wsucc h3 hn, e1]
    · refine ⟨false, ?_, fun hs => absurd (std_get hs (by omega) h3) c⟩
      · rw [merge_Sorted.l0L_eq, wpred h2 (Nat.le_refl _) (by omega), if_pos (by omega), if_pos (by omega), if_pos (by omega), if_pos (by omega), less_L]
        simp only [Option.bind_some]
        rw [if_neg c]
theorem sorted_std {l : List S36} (hl : Std l) (hn : l.length < 100000) : merge_Sorted.fL l = some true := by
  obtain ⟨b, h1, h3⟩ := psorted_l hn (l.length - 1) 1 (by omega) (by omega)
  rw [merge_Sorted.fL_eq, show ((1 : Int)) = ((1 : Nat) : Int) from rfl, h1, h3 hl]
/-! ### the chapter's examples -/
def e0 : S36 := ⟨⟨#[97]⟩, 5, true, ⟨#[]⟩⟩
def e1 : S36 := ⟨⟨#[97]⟩, 3, false, ⟨#[120]⟩⟩
def e2 : S36 := ⟨⟨#[98]⟩, 4, false, ⟨#[120]⟩⟩
def nnB (l : List S36) (a : Int) (e : S36) : Bool := decide (e.f1 ≤ a) && l.all fun x => !(decide (x.f0.data.toList = e.f0.data.toList)) || !(decide (x.f1 ≤ a)) || decide (x.f1 ≤ e.f1)
theorem nn_eq : nn = nnB := by
  funext l a e
  refine bool_ext ?_
  rw [nn_iff]
  unfold NN nnB
  simp only [Bool.and_eq_true, decide_eq_true_eq, List.all_eq_true, Bool.or_eq_true, Bool.not_eq_true', decide_eq_false_iff_not]
  refine and_congr_right fun _ => forall_congr' fun x => forall_congr' fun hx => ?_
  constructor
  · intro h
    by_cases c : x.f0.data.toList = e.f0.data.toList
    · by_cases d : x.f1 ≤ a
      · exact .inr (h (bytes_inj c) d)
      · exact .inl (.inr d)
    · exact .inl (.inl c)
  · rintro ((h | h) | h) hk ha
    · exact absurd (by rw [hk]) h
    · exact absurd ha h
    · exact h
def kpB (l : List S36) (e : S36) : Bool := l.any fun x => decide (x.f0.data.toList = e.f0.data.toList) && decide (x.f1 ≤ e.f1) && !x.f2
theorem kp_eq : kp = kpB := by
  funext l e
  refine bool_ext ?_
  rw [kp_iff]
  unfold KP kpB
  simp only [List.any_eq_true, Bool.and_eq_true, decide_eq_true_eq, Bool.not_eq_true']
  constructor
  · rintro ⟨x, hx, h1, h2, h3⟩
    exact ⟨x, hx, ⟨by rw [h1], h2⟩, h3⟩
  · rintro ⟨x, hx, ⟨h1, h2⟩, h3⟩
    exact ⟨x, hx, bytes_inj h1, h2, h3⟩
def visB (l : List S36) (a : Int) : List S36 := l.filter fun e => nnB l a e && !e.f2
theorem vis_eq (l : List S36) (a : Int) : vis l a = visB l a := by unfold vis; rw [nn_eq]; rfl
def thinB (l : List S36) (shots : List Int) (last : Bool) : List S36 :=
  let out := l.filter fun e => nnB l 4611686018427387904 e || shots.any fun s => nnB l s e
  if last = true then out.filter (kpB out) else out
theorem thin_eq (l : List S36) (shots : List Int) (last : Bool) : thin l shots last = thinB l shots last := by
  unfold thin lst
  rw [show need l shots = fun e => nnB l 4611686018427387904 e || shots.any fun s => nnB l s e from by funext e; unfold need; rw [nn_eq], kp_eq]
  rfl
theorem std_ex : Std [e0, e1, e2] := by
  unfold Std
  simp only [List.pairwise_cons, List.Pairwise.nil, List.not_mem_nil, false_implies, implies_true, and_true, List.mem_cons, or_false, forall_eq_or_imp, forall_eq]
  exact ⟨⟨by decide +kernel, by decide +kernel⟩, by decide +kernel⟩
theorem shown_L : moultlaw12_shown.fL = some true := by
  have hs := std_ex
  have h9 : merge_Visible.fL [e0, e1, e2] 9 = some [e2] := by rw [pvis hs (by simp), vis_eq]; rfl
  have h4 : merge_Visible.fL [e0, e1, e2] 4 = some [e1, e2] := by rw [pvis hs (by simp), vis_eq]; rfl
  have hm : merge_Merge.fL [[e2], [e0, e1]] = some [e0, e1, e2] := by
    rw [merge_L (by simp) ?_ (by simp)]
    · congr 1
    · intro l hl
      simp only [List.mem_cons, List.not_mem_nil, or_false] at hl
      rcases hl with rfl | rfl
      · exact List.Pairwise.drop (i := 2) hs
      · exact List.Pairwise.take (i := 2) hs
  have big : ∀ x ∈ [e0, e1, e2], x.f1 ≤ 4611686018427387904 := by simp [e0, e1, e2]
  have t0 : merge_Thin.fL [e0, e1, e2] [] false = some [e0, e2] := by rw [pthin hs (by simp) big [] (by simp), thin_eq]; rfl
  have t1 : merge_Thin.fL [e0, e1, e2] [4] false = some [e0, e1, e2] := by rw [pthin hs (by simp) big [4] (by simp), thin_eq]; rfl
  have t2 : merge_Thin.fL [e0, e1, e2] [] true = some [e2] := by rw [pthin hs (by simp) big [] (by simp), thin_eq]; rfl
  have hns : merge_Sorted.fL [e2, e0] = some false := by
    rw [merge_Sorted.fL_eq, merge_Sorted.l0L_eq, if_pos (by simp), show wrap64 (1 - 1) = 0 from w64 (by omega) (by omega), if_pos (by omega), if_pos (by simp), if_pos (by omega)]
    have : table_Less.fL e2.f0 e2.f1 e2.f2 e2.f3 e0.f0 e0.f1 e0.f2 e0.f3 = some (lt e2 e0) := less_L e2 e0
    rw [show rd_T36 [e2, e0] 0 = e2 from rfl, show rd_T36 [e2, e0] 1 = e0 from rfl, this, show lt e2 e0 = false from by decide +kernel]
    rfl
  rw [moultlaw12_shown.fL_eq]
  unfold moultlaw12_live.f
  simp only [Option.bind_some]
  change ((merge_Visible.fL [e0, e1, e2] 9).bind fun t255 => _) = _
  rw [h9]
  simp only [Option.bind_some]
  rw [if_pos (by decide)]
  change ((moultlaw12_same.fL [e2] [e2]).bind fun t263 => _) = _
  rw [same_L _ (by simp)]
  simp only [Option.bind_some, if_true]
  change ((merge_Visible.fL [e0, e1, e2] 4).bind fun t264 => _) = _
  rw [h4]
  simp only [Option.bind_some]
  rw [if_pos (by decide)]
  change ((moultlaw12_same.fL [e1, e2] [e1, e2]).bind fun t272 => _) = _
  rw [same_L _ (by simp)]
  simp only [Option.bind_some, if_true]
  change ((merge_Merge.fL [[e2], [e0, e1]]).bind fun t286 => _) = _
  rw [hm]
  simp only [Option.bind_some]
  change ((moultlaw12_same.fL [e0, e1, e2] [e0, e1, e2]).bind fun t289 => (merge_Thin.fL [e0, e1, e2] [] false).bind fun t290 => _) = _
  rw [same_L _ (by simp), t0]
  simp only [Option.bind_some]
  rw [if_pos (by decide), if_pos (by decide)]
  change ((moultlaw12_same.fL [e0, e2] [e0, e2]).bind fun t298 => _) = _
  rw [same_L _ (by simp)]
  simp only [Option.bind_some, if_true]
  change ((merge_Thin.fL [e0, e1, e2] [4] false).bind fun t302 => _) = _
  rw [t1]
  simp only [Option.bind_some]
  change ((moultlaw12_same.fL [e0, e1, e2] [e0, e1, e2]).bind fun t305 => _) = _
  rw [same_L _ (by simp)]
  simp only [Option.bind_some, if_true]
  change ((merge_Thin.fL [e0, e1, e2] [] true).bind fun t306 => _) = _
  rw [t2]
  simp only [Option.bind_some]
  change ((moultlaw12_same.fL [e2] [e2]).bind fun t314 => _) = _
  rw [same_L _ (by simp)]
  simp only [Option.bind_some, if_true]
  change ((merge_Sorted.fL [e0, e1, e2]).bind fun t315 => _) = _
  rw [sorted_std hs (by simp)]
  simp only [Option.bind_some, if_true]
  change ((merge_Sorted.fL [e2, e0]).bind fun t321 => _) = _
  rw [hns]
  rfl
end Go.Proofs.Ythdoanbadhfhjaa.Mrg
