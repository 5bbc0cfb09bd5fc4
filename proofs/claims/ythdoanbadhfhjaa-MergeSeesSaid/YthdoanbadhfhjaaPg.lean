/- The plain laws of merge, part g: what is seen, and what is needed, of a row that stands: as filters. -/
import Derived.Test.YthdoanbadhfhjaaPa
set_option linter.unusedVariables false
set_option linter.unusedSimpArgs false
namespace Go.Proofs.Ythdoanbadhfhjaa.Mrg
open Go.Proofs.Ythdoanbadhfhjaa.PAll

/-- The newest of its key at or below a number. -/
def NN (l : List S36) (a : Int) (e : S36) : Prop := e.f1 ≤ a ∧ ∀ x ∈ l, x.f0 = e.f0 → x.f1 ≤ a → x.f1 ≤ e.f1
open Classical in
noncomputable def nn (l : List S36) (a : Int) (e : S36) : Bool := decide (NN l a e)
theorem nn_iff {l : List S36} {a : Int} {e : S36} : nn l a e = true ↔ NN l a e := by unfold nn; simp
noncomputable def vis (l : List S36) (a : Int) : List S36 := l.filter fun e => nn l a e && !e.f2
theorem mem_vis {l : List S36} {a : Int} {x : S36} : x ∈ vis l a ↔ x ∈ l ∧ NN l a x ∧ x.f2 = false := by
  unfold vis
  rw [List.mem_filter, Bool.and_eq_true, nn_iff, Bool.not_eq_true']
noncomputable def need (l : List S36) (shots : List Int) (e : S36) : Bool := nn l 4611686018427387904 e || shots.any fun s => nn l s e
theorem need_iff {l : List S36} {shots : List Int} {e : S36} : need l shots e = true ↔ NN l 4611686018427387904 e ∨ ∃ s ∈ shots, NN l s e := by
  unfold need
  rw [Bool.or_eq_true, nn_iff, List.any_eq_true]
  simp only [nn_iff]
def KP (l : List S36) (e : S36) : Prop := ∃ x ∈ l, x.f0 = e.f0 ∧ x.f1 ≤ e.f1 ∧ x.f2 = false
open Classical in
noncomputable def kp (l : List S36) (e : S36) : Bool := decide (KP l e)
theorem kp_iff {l : List S36} {e : S36} : kp l e = true ↔ KP l e := by unfold kp; simp
noncomputable def lst (last : Bool) (out : List S36) : List S36 := if last = true then out.filter (kp out) else out
noncomputable def thin (l : List S36) (shots : List Int) (last : Bool) : List S36 := lst last (l.filter (need l shots))
theorem std_filter {l : List S36} (h : Std l) (p : S36 → Bool) : Std (l.filter p) := List.Pairwise.filter p h
theorem std_vis {l : List S36} (h : Std l) (a : Int) : Std (vis l a) := std_filter h _
theorem std_lst {l : List S36} (h : Std l) (b : Bool) : Std (lst b l) := by
  unfold lst
  split
  · exact std_filter h _
  · exact h
theorem std_thin {l : List S36} (h : Std l) (shots : List Int) (b : Bool) : Std (thin l shots b) := std_lst (std_filter h _) b
theorem mem_lst {l : List S36} {b : Bool} {x : S36} : x ∈ lst b l ↔ x ∈ l ∧ (b = true → KP l x) := by
  unfold lst
  split
  · rename_i h
    rw [List.mem_filter, kp_iff]
    simp [h]
  · rename_i h
    simp [h]
theorem mem_thin {l : List S36} {shots : List Int} {b : Bool} {x : S36} : x ∈ thin l shots b ↔ (x ∈ l ∧ need l shots x = true) ∧ (b = true → KP (l.filter (need l shots)) x) := by
  unfold thin
  rw [mem_lst, List.mem_filter]
theorem thin_sub {l : List S36} {shots : List Int} {b : Bool} {x : S36} (h : x ∈ thin l shots b) : x ∈ l := (mem_thin.mp h).1.1
theorem thin_length (l : List S36) (shots : List Int) (b : Bool) : (thin l shots b).length ≤ l.length := by
  unfold thin lst
  split
  · exact Nat.le_trans (List.length_filter_le _ _) (List.length_filter_le _ _)
  · exact List.length_filter_le _ _
theorem NN.sub {l m : List S36} {a : Int} {e : S36} (h : NN l a e) (hs : ∀ x ∈ m, x ∈ l) : NN m a e := ⟨h.1, fun x hx => h.2 x (hs x hx)⟩
/-- There is a newest one. -/
theorem newest_ex {a : Int} {key : ByteArray} : ∀ {l : List S36}, (∃ y ∈ l, y.f0 = key ∧ y.f1 ≤ a) → ∃ z ∈ l, z.f0 = key ∧ NN l a z
  | [], ⟨y, hy, _⟩ => by simp at hy
  | b :: l, ⟨y, hy, hk, ha⟩ => by
    by_cases hl : ∃ y ∈ l, y.f0 = key ∧ y.f1 ≤ a
    · obtain ⟨z, hz, hzk, hzn⟩ := newest_ex hl
      by_cases hb : b.f0 = key ∧ b.f1 ≤ a ∧ z.f1 < b.f1
      · refine ⟨b, by simp, hb.1, hb.2.1, fun x hx hxk hxa => ?_⟩
        rcases List.mem_cons.mp hx with rfl | hx
        · exact Int.le_refl _
        · have := hzn.2 x hx (by rw [hxk, hb.1, hzk]) hxa
          omega
      · refine ⟨z, by simp [hz], hzk, hzn.1, fun x hx hxk hxa => ?_⟩
        rcases List.mem_cons.mp hx with rfl | hx
        · by_cases h : z.f1 < x.f1
          · exact absurd ⟨by rw [hxk, hzk], hxa, h⟩ hb
          · omega
        · exact hzn.2 x hx hxk hxa
    · rcases List.mem_cons.mp hy with rfl | hy
      · refine ⟨y, by simp, hk, ha, fun x hx hxk hxa => ?_⟩
        rcases List.mem_cons.mp hx with rfl | hx
        · exact Int.le_refl _
        · exact absurd ⟨x, hx, by rw [hxk, hk], hxa⟩ hl
      · exact absurd ⟨y, hy, hk, ha⟩ hl
theorem need_sub {l m : List S36} {shots : List Int} {e : S36} (h : need l shots e = true) (hs : ∀ x ∈ m, x ∈ l) : need m shots e = true := by
  rw [need_iff] at h ⊢
  rcases h with h | ⟨s, hm, h⟩
  · exact .inl (h.sub hs)
  · exact .inr ⟨s, hm, h.sub hs⟩
/-- What is needed is seen as all of it was. -/
theorem vis_thin {l : List S36} (hl : Std l) (shots : List Int) (b : Bool) {s : Int} (hs : s ∈ shots ∨ ((∀ x ∈ l, x.f1 ≤ s) ∧ ∀ x ∈ l, x.f1 ≤ 4611686018427387904)) : vis (thin l shots b) s = vis l s := by
  have hneed : ∀ z ∈ l, NN l s z → need l shots z = true := by
    intro z hz hn
    rw [need_iff]
    rcases hs with hs | hs
    · exact .inr ⟨s, hs, hn⟩
    · exact .inl ⟨hs.2 z hz, fun x hx hxk hxa => hn.2 x hx hxk (hs.1 x hx)⟩
  refine std_ext (std_vis (std_thin hl shots b) s) (std_vis hl s) (fun x => ?_)
  rw [mem_vis, mem_vis]
  constructor
  · rintro ⟨hx, hn, hd⟩
    refine ⟨thin_sub hx, ⟨hn.1, fun y hy hyk hya => ?_⟩, hd⟩
    obtain ⟨z, hz, hzk, hzn⟩ := newest_ex (l := l) (a := s) (key := x.f0) ⟨y, hy, hyk, hya⟩
    have h1 := hzn.2 y hy (by rw [hyk, hzk]) hya
    by_cases hlt : x.f1 < y.f1
    · have hzt : z ∈ thin l shots b := mem_thin.mpr ⟨⟨hz, hneed z hz hzn⟩, fun hb => ⟨x, List.mem_filter.mpr (mem_thin.mp hx).1, hzk.symm, by omega, hd⟩⟩
      have := hn.2 z hzt hzk hzn.1
      omega
    · omega
  · rintro ⟨hx, hn, hd⟩
    have hm : x ∈ l.filter (need l shots) := List.mem_filter.mpr ⟨hx, hneed x hx hn⟩
    exact ⟨mem_thin.mpr ⟨⟨hx, hneed x hx hn⟩, fun _ => ⟨x, hm, rfl, Int.le_refl _, hd⟩⟩, hn.sub (fun y hy => thin_sub hy), hd⟩
/-- What is needed of what is needed is all of it. -/
theorem thin_thin {l : List S36} (hl : Std l) (shots : List Int) (b : Bool) : thin (thin l shots b) shots b = thin l shots b := by
  have ho : (thin l shots b).filter (need (thin l shots b) shots) = thin l shots b := List.filter_eq_self.mpr (fun x hx => need_sub (mem_thin.mp hx).1.2 (fun y hy => thin_sub hy))
  show lst b ((thin l shots b).filter (need (thin l shots b) shots)) = _
  rw [ho]
  unfold lst
  split
  · rename_i hb
    refine List.filter_eq_self.mpr (fun x hx => ?_)
    rw [kp_iff]
    obtain ⟨z, hz, hzk, hzl, hzd⟩ := (mem_thin.mp hx).2 hb
    exact ⟨z, mem_thin.mpr ⟨List.mem_filter.mp hz, fun _ => ⟨z, hz, rfl, Int.le_refl _, hzd⟩⟩, hzk, hzl, hzd⟩
  · rfl
/-- What is seen is seen again. -/
theorem vis_vis {l : List S36} (hl : Std l) (a : Int) : vis (vis l a) a = vis l a := by
  refine std_ext (std_vis (std_vis hl a) a) (std_vis hl a) (fun x => ?_)
  rw [mem_vis]
  constructor
  · exact fun h => h.1
  · intro h
    have h1 := mem_vis.mp h
    exact ⟨h, h1.2.1.sub (fun y hy => (mem_vis.mp hy).1), h1.2.2⟩
/-! ### Groups -/
inductive Grp : List S36 → List (List S36) → Prop
  | nil : Grp [] []
  | cons {g l : List S36} {gs : List (List S36)} : g ≠ [] → (∀ x ∈ g, ∀ y ∈ g, x.f0 = y.f0) → (∀ x ∈ g, ∀ y ∈ l, x.f0 ≠ y.f0) → Grp l gs → Grp (g ++ l) (g :: gs)
theorem Grp.flat {l : List S36} {gs : List (List S36)} (h : Grp l gs) : gs.flatten = l := by
  induction h with
  | nil => rfl
  | cons _ _ _ _ ih => rw [List.flatten_cons, ih]
theorem NN_left {g l : List S36} (h : ∀ x ∈ g, ∀ y ∈ l, x.f0 ≠ y.f0) {a : Int} {e : S36} (he : e ∈ g) : NN (g ++ l) a e ↔ NN g a e :=
  ⟨fun hn => hn.sub (fun x hx => List.mem_append_left _ hx), fun hn => ⟨hn.1, fun x hx hxk hxa => by
    rcases List.mem_append.mp hx with hx | hx
    · exact hn.2 x hx hxk hxa
    · exact absurd hxk.symm (h e he x hx)⟩⟩
theorem NN_right {g l : List S36} (h : ∀ x ∈ g, ∀ y ∈ l, x.f0 ≠ y.f0) {a : Int} {e : S36} (he : e ∈ l) : NN (g ++ l) a e ↔ NN l a e :=
  ⟨fun hn => hn.sub (fun x hx => List.mem_append_right _ hx), fun hn => ⟨hn.1, fun x hx hxk hxa => by
    rcases List.mem_append.mp hx with hx | hx
    · exact absurd hxk (h x hx e he)
    · exact hn.2 x hx hxk hxa⟩⟩
theorem bool_ext {a b : Bool} (h : a = true ↔ b = true) : a = b := by cases a <;> cases b <;> simp_all
theorem vis_append {g l : List S36} (h : ∀ x ∈ g, ∀ y ∈ l, x.f0 ≠ y.f0) (a : Int) : vis (g ++ l) a = vis g a ++ vis l a := by
  unfold vis
  rw [List.filter_append]
  congr 1
  · refine List.filter_congr (fun x hx => ?_)
    rw [show nn (g ++ l) a x = nn g a x from bool_ext (by rw [nn_iff, nn_iff, NN_left h hx])]
  · refine List.filter_congr (fun x hx => ?_)
    rw [show nn (g ++ l) a x = nn l a x from bool_ext (by rw [nn_iff, nn_iff, NN_right h hx])]
theorem need_append {g l : List S36} (h : ∀ x ∈ g, ∀ y ∈ l, x.f0 ≠ y.f0) (shots : List Int) : (g ++ l).filter (need (g ++ l) shots) = g.filter (need g shots) ++ l.filter (need l shots) := by
  rw [List.filter_append]
  congr 1
  · refine List.filter_congr (fun x hx => bool_ext ?_)
    rw [need_iff, need_iff]
    simp only [NN_left h hx]
  · refine List.filter_congr (fun x hx => bool_ext ?_)
    rw [need_iff, need_iff]
    simp only [NN_right h hx]
theorem lst_append {g l : List S36} (h : ∀ x ∈ g, ∀ y ∈ l, x.f0 ≠ y.f0) (b : Bool) : lst b (g ++ l) = lst b g ++ lst b l := by
  unfold lst
  split
  · rw [List.filter_append]
    congr 1
    · refine List.filter_congr (fun x hx => bool_ext ?_)
      rw [kp_iff, kp_iff]
      constructor
      · rintro ⟨z, hz, hk, h2⟩
        rcases List.mem_append.mp hz with hz | hz
        · exact ⟨z, hz, hk, h2⟩
        · exact absurd hk.symm (h x hx z hz)
      · rintro ⟨z, hz, h2⟩
        exact ⟨z, List.mem_append_left _ hz, h2⟩
    · refine List.filter_congr (fun x hx => bool_ext ?_)
      rw [kp_iff, kp_iff]
      constructor
      · rintro ⟨z, hz, hk, h2⟩
        rcases List.mem_append.mp hz with hz | hz
        · exact absurd hk (h z hz x hx)
        · exact ⟨z, hz, hk, h2⟩
      · rintro ⟨z, hz, h2⟩
        exact ⟨z, List.mem_append_right _ hz, h2⟩
  · rfl
theorem thin_append {g l : List S36} (h : ∀ x ∈ g, ∀ y ∈ l, x.f0 ≠ y.f0) (shots : List Int) (b : Bool) : thin (g ++ l) shots b = thin g shots b ++ thin l shots b := by
  unfold thin
  rw [need_append h, lst_append (fun x hx y hy => h x (List.mem_filter.mp hx).1 y (List.mem_filter.mp hy).1)]
/-- Rows of one key, the last of which is Dead, or not. -/
theorem lst_snoc_dead {m : List S36} {x : S36} (h : Std (m ++ [x])) (hk : ∀ y ∈ m, y.f0 = x.f0) (hd : x.f2 = true) : lst true (m ++ [x]) = lst true m := by
  have hlt : ∀ y ∈ m, x.f1 < y.f1 := by
    intro y hy
    have h1 := (List.pairwise_append.mp h).2.2 y hy x (by simp)
    rw [lt_iff] at h1
    rcases h1 with h1 | h1
    · have := (kc_zero y x).mpr (hk y hy); omega
    · exact h1.2
  simp only [lst, if_true]
  rw [List.filter_append]
  have e1 : [x].filter (kp (m ++ [x])) = [] := by
    rw [List.filter_cons_of_neg, List.filter_nil]
    rw [kp_iff]
    rintro ⟨z, hz, _, h2, h3⟩
    rcases List.mem_append.mp hz with hz | hz
    · have := hlt z hz; omega
    · rw [List.mem_singleton.mp hz, hd] at h3
      cases h3
  rw [e1, List.append_nil]
  refine List.filter_congr (fun y hy => bool_ext ?_)
  rw [kp_iff, kp_iff]
  constructor
  · rintro ⟨z, hz, hk, h2, h3⟩
    rcases List.mem_append.mp hz with hz | hz
    · exact ⟨z, hz, hk, h2, h3⟩
    · rw [List.mem_singleton.mp hz, hd] at h3
      cases h3
  · rintro ⟨z, hz, h2⟩
    exact ⟨z, List.mem_append_left _ hz, h2⟩
theorem lst_snoc_live {m : List S36} {x : S36} (h : Std (m ++ [x])) (hk : ∀ y ∈ m, y.f0 = x.f0) (hd : x.f2 = false) : lst true (m ++ [x]) = m ++ [x] := by
  have hlt : ∀ y ∈ m, x.f1 < y.f1 := by
    intro y hy
    have h1 := (List.pairwise_append.mp h).2.2 y hy x (by simp)
    rw [lt_iff] at h1
    rcases h1 with h1 | h1
    · have := (kc_zero y x).mpr (hk y hy); omega
    · exact h1.2
  simp only [lst, if_true]
  refine List.filter_eq_self.mpr (fun y hy => ?_)
  rw [kp_iff]
  refine ⟨x, by simp, ?_⟩
  rcases List.mem_append.mp hy with hy | hy
  · exact ⟨(hk y hy).symm, by have := hlt y hy; omega, hd⟩
  · rw [List.mem_singleton.mp hy]; exact ⟨rfl, Int.le_refl _, hd⟩
end Go.Proofs.Ythdoanbadhfhjaa.Mrg
