/- The plain laws of merge, part d: the program's two and Merge. -/
import Derived.Test.YthdoanbadhfhjaaPc
set_option linter.unusedVariables false
set_option linter.unusedSimpArgs false
namespace Go.Proofs.Ythdoanbadhfhjaa.Mrg
open Go.RowKit Go.Proofs.Ythdoanbadhfhjaa.PAll Go.Proofs.Ythdoanbadhfhjaa Go.Proofs.YthdoanbadhfhjaaW.PrintWords Go.Proofs.YthdoanbadhfhjaaW.PrintLast Go.Proofs.YthdoanbadhfhjaaW.PrintMore

theorem rd_zero (x : S36) (l : List S36) : rd_T36 (x :: l) 0 = x := rfl
theorem two_nil (a : List S36) : two a [] = a := by cases a <;> simp [two]
theorem two_ev : ∀ (n : Nat) (a b out : List S36), n = a.length + b.length → out.length + a.length + b.length < 100000 → Ev (fun k => api_Entry_36.l0 k a b out) (out ++ two a b) := by
  intro n
  induction n using Nat.strongRecOn with
  | ind n ih =>
    intro a b out hn hk
    cases a with
    | nil =>
      refine ⟨2, fun k hq => ?_⟩
      obtain ⟨m, rfl⟩ : ∃ m, k = m + 2 := ⟨k - 2, by omega⟩
      simp only [List.length_nil] at hk
      simp only [api_Entry_36.l0, api_Entry_36.j1]
      rw [if_neg (by simp), if_neg (by simp)]
      simp only [Option.bind_some, List.append_nil, List.length_nil]
      rw [if_pos (by omega), if_pos (by omega)]
      simp [two]
    | cons x a =>
      cases b with
      | nil =>
        refine ⟨2, fun k hq => ?_⟩
        obtain ⟨m, rfl⟩ : ∃ m, k = m + 2 := ⟨k - 2, by omega⟩
        simp only [List.length_nil, List.length_cons] at hk
        simp only [api_Entry_36.l0, api_Entry_36.j1]
        rw [if_pos (by simp <;> omega), if_neg (by simp)]
        simp only [Option.bind_some, List.append_nil, List.length_nil, List.length_append, List.length_cons]
        rw [if_pos (by omega), if_pos (by omega)]
        simp [two]
      | cons y b =>
        simp only [List.length_cons] at hn hk
        obtain ⟨K1, L1⟩ := less_ev x y
        obtain ⟨K2, L2⟩ := less_ev y x
        obtain ⟨K3, h3⟩ := ih (a.length + (b.length + 1)) (by omega) a (y :: b) (out ++ [x]) (by simp) (by simp; omega)
        obtain ⟨K4, h4⟩ := ih (a.length + 1 + b.length) (by omega) (x :: a) b (out ++ [y]) (by simp) (by simp; omega)
        obtain ⟨K5, h5⟩ := ih (a.length + 1 + b.length) (by omega) (x :: a) b out (by simp) (by simp; omega)
        refine ⟨K1 + K2 + K3 + K4 + K5 + 2, fun k hq => ?_⟩
        obtain ⟨m, rfl⟩ : ∃ m, k = m + 2 := ⟨k - 2, by omega⟩
        have L1 := L1 m (by omega)
        have L2 := L2 m (by omega)
        have h3 := h3 m (by omega)
        have h4 := h4 m (by omega)
        have h5 := h5 m (by omega)
        dsimp only at L1 L2 h3 h4 h5 ⊢
        simp only [api_Entry_36.l0, api_Entry_36.j1, rd_zero]
        rw [if_pos (by simp <;> omega), if_pos (by simp <;> omega), if_pos (by simp <;> omega), if_pos (by simp <;> omega), L1]
        simp only [Option.bind_some]
        unfold two
        by_cases c1 : lt x y = true
        · rw [if_pos c1, if_pos c1, if_pos (by omega), if_pos (by simp; omega)]
          rw [show List.drop 1 (x :: a) = a from rfl, h3]
          simp
        · rw [if_neg c1, if_neg c1, L2]
          simp only [Option.bind_some]
          by_cases c2 : lt y x = true
          · rw [if_pos c2, if_pos c2, if_pos (by omega), if_pos (by simp; omega)]
            rw [show List.drop 1 (y :: b) = b from rfl, h4]
            simp
          · rw [if_neg c2, if_neg c2, if_pos (by simp; omega)]
            rw [show List.drop 1 (y :: b) = b from rfl, h5]
theorem two_f (a b : List S36) (u : Unit) (hk : a.length + b.length < 100000) : Ev (fun k => api_Entry_36.f k a b u) (two a b) := by
  have := two_ev _ a b [] rfl (by simp; omega)
  rw [List.nil_append] at this
  exact this
/-- Rows that stand, merged half by half: the row of all of their entries. -/
theorem all_ev : ∀ (n : Nat) (L : List (List S36)) (u : Unit), n = L.length → n < 100000 → (∀ l ∈ L, Std l) → L.flatten.length < 100000 → Ev (fun k => api_Entry_25.f k L u) (row L.flatten) := by
  intro n
  induction n using Nat.strongRecOn with
  | ind n ih =>
    intro L u hn hn2 hs hk
    by_cases h0 : L.length = 0
    · refine ⟨1, fun k hq => ?_⟩
      obtain ⟨m, rfl⟩ : ∃ m, k = m + 1 := ⟨k - 1, by omega⟩
      simp only [api_Entry_25.f]
      rw [if_pos (by omega), List.length_eq_zero_iff.mp h0]
      rfl
    · by_cases h1 : L.length = 1
      · obtain ⟨l, rfl⟩ := List.length_eq_one_iff.mp h1
        refine ⟨1, fun k hq => ?_⟩
        obtain ⟨m, rfl⟩ : ∃ m, k = m + 1 := ⟨k - 1, by omega⟩
        simp only [api_Entry_25.f]
        rw [if_neg (by omega), if_pos (by omega), if_pos (by omega)]
        have hl : l.length < 100000 := by simpa using hk
        simp only [slices_Clone_Entry.f]
        rw [show rd_L4 [l] 0 = l from rfl, if_pos (by omega)]
        simp only [Option.bind_some]
        rw [List.flatten_cons, List.flatten_nil, List.append_nil, row_std (hs l (by simp))]
      · have hw : wrap64 ((L.length : Int) / 2) = ((L.length / 2 : Nat) : Int) := by rw [w64 (by omega) (by omega)]; omega
        have hcut : (L.take (L.length / 2)).flatten ++ (L.drop (L.length / 2)).flatten = L.flatten := by rw [← List.flatten_append, List.take_append_drop]
        have hlen := congrArg List.length hcut
        rw [List.length_append] at hlen
        obtain ⟨K1, e1⟩ := ih (L.length / 2) (by omega) (L.take (L.length / 2)) u (by rw [List.length_take]; omega) (by omega) (fun l hl => hs l (List.mem_of_mem_take hl)) (by omega)
        obtain ⟨K2, e2⟩ := ih (L.length - L.length / 2) (by omega) (L.drop (L.length / 2)) u (by rw [List.length_drop]) (by omega) (fun l hl => hs l (List.mem_of_mem_drop hl)) (by omega)
        have r1 := fold_length (L.take (L.length / 2)).flatten []
        have r2 := fold_length (L.drop (L.length / 2)).flatten []
        simp only [List.length_nil] at r1 r2
        obtain ⟨K3, e3⟩ := two_f (row (L.take (L.length / 2)).flatten) (row (L.drop (L.length / 2)).flatten) u (by unfold row; omega)
        refine ⟨K1 + K2 + K3 + 1, fun k hq => ?_⟩
        obtain ⟨m, rfl⟩ : ∃ m, k = m + 1 := ⟨k - 1, by omega⟩
        have e1 := e1 m (by omega)
        have e2 := e2 m (by omega)
        have e3 := e3 m (by omega)
        dsimp only at e1 e2 e3 ⊢
        simp only [api_Entry_25.f]
        rw [if_neg (by omega), if_neg (by omega), hw, if_pos (by omega), if_pos (by omega), Int.toNat_natCast, e1]
        simp only [Option.bind_some]
        rw [e2]
        simp only [Option.bind_some]
        rw [e3, two_row, hcut]
        rfl
theorem merge_ev {L : List (List S36)} (hn : L.length < 100000) (hs : ∀ l ∈ L, Std l) (hk : L.flatten.length < 100000) : Ev (fun k => merge_Merge.f k L) (row L.flatten) := by
  obtain ⟨K, h⟩ := all_ev L.length L () rfl hn hs hk
  refine ⟨K, fun k hq => ?_⟩
  have h := h k hq
  dsimp only at h
  simp only [merge_Merge.f]
  rw [h]
  rfl
end Go.Proofs.Ythdoanbadhfhjaa.Mrg
