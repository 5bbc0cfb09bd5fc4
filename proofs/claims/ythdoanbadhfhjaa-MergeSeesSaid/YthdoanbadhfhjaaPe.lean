/- The plain laws of merge, part e: the statements' own rows, and what they compare. -/
import Derived.Test.YthdoanbadhfhjaaPd
set_option linter.unusedVariables false
set_option linter.unusedSimpArgs false
namespace Go.Proofs.Ythdoanbadhfhjaa.Mrg
open Go.RowKit Go.Proofs.Ythdoanbadhfhjaa.PAll Go.Proofs.Ythdoanbadhfhjaa Go.Proofs.YthdoanbadhfhjaaW.PrintWords Go.Proofs.YthdoanbadhfhjaaW.PrintLast Go.Proofs.YthdoanbadhfhjaaW.PrintMore

/-- A small entry. -/
def Sm (x : S36) : Prop := x.f0.size ≤ 300 ∧ 0 ≤ x.f1 ∧ x.f1 ≤ 1099511627776
theorem Sm.fit {x : S36} (h : Sm x) : Fit x := by have := h.1; unfold Fit; omega
theorem small_ev (l : List S36) : ∃ b, Ev (fun k => moultlaw12_small.f k l) b ∧ (b = true → l.length ≤ 60 ∧ ∀ x ∈ l, Sm x) := by
  by_cases h : l.length > 60
  · refine ⟨false, ⟨0, fun k hq => ?_⟩, fun e => by cases e⟩
    simp only [moultlaw12_small.f]
    rw [if_pos (by omega)]
  · have key : ∀ (n i : Nat), n = l.length - i → i ≤ l.length → ∃ b, Ev (fun k => moultlaw12_small.l0 k l (i : Int)) b ∧ (b = true → ∀ x ∈ l.drop i, Sm x) := by
      intro n
      induction n with
      | zero =>
        intro i h1 h2
        refine ⟨true, ⟨1, fun k hq => ?_⟩, fun _ => ?_⟩
        · obtain ⟨m, rfl⟩ : ∃ m, k = m + 1 := ⟨k - 1, by omega⟩
          simp only [moultlaw12_small.l0]
          rw [if_neg (by omega)]
        · rw [List.drop_eq_nil_of_le (by omega)]; simp
      | succ n ih =>
        intro i h1 h2
        have h3 : i < l.length := by omega
        obtain ⟨b, ⟨K, e⟩, hb⟩ := ih (i + 1) (by omega) (by omega)
        by_cases c : ((rd_T36 l (i : Int)).f0.size ≤ 300 ∧ (rd_T36 l (i : Int)).f3.size ≤ 300) ∧ ((rd_T36 l (i : Int)).f1 ≤ 1099511627776 ∧ 0 ≤ (rd_T36 l (i : Int)).f1)
        · refine ⟨b, ⟨K + 1, fun k hq => ?_⟩, fun e2 => ?_⟩
          · obtain ⟨m, rfl⟩ : ∃ m, k = m + 1 := ⟨k - 1, by omega⟩
            have e := e m (by omega)
            dsimp only at e ⊢
            simp only [moultlaw12_small.l0]
            rw [if_pos (by omega), if_pos (by omega), if_neg (by omega), if_neg (by omega), if_neg (by omega), if_neg (by omega), w64 (by omega) (by omega), ← Int.natCast_succ, e]
          · rw [rd_drop h3]
            refine List.forall_mem_cons.mpr ⟨⟨c.1.1, c.2.2, c.2.1⟩, hb e2⟩
        · refine ⟨false, ⟨1, fun k hq => ?_⟩, fun e => by cases e⟩
          obtain ⟨m, rfl⟩ : ∃ m, k = m + 1 := ⟨k - 1, by omega⟩
          simp only [moultlaw12_small.l0]
          rw [if_pos (by omega), if_pos (by omega)]
          split
          · rfl
          · split
            · rfl
            · split
              · rfl
              · split
                · rfl
                · omega
    obtain ⟨b, ⟨K, e⟩, hb⟩ := key l.length 0 (by omega) (by omega)
    refine ⟨b, ⟨K, fun k hq => ?_⟩, fun e2 => ⟨by omega, by simpa using hb e2⟩⟩
    simp only [moultlaw12_small.f]
    rw [if_neg (by omega)]
    exact e k hq
/-- A row as the statements lay it. -/
def Good (l : List S36) : Prop := Std l ∧ l.length ≤ 60 ∧ ∀ x ∈ l, Sm x
theorem row_mem {M : List S36} {x : S36} (h : x ∈ row M) : x ∈ M := fst1_mem ((mem_row M x).mp h)
theorem row_good {l : List S36} (h1 : l.length ≤ 60) (h2 : ∀ x ∈ l, Sm x) : Good (row l) := by
  refine ⟨std_row l, ?_, fun x hx => h2 x (row_mem hx)⟩
  have := fold_length l []
  unfold row
  simp only [List.length_nil] at this
  omega
theorem rows_ev (L : List (List S36)) : ∃ r b, Ev (fun k => moultlaw12_rows.f k L) (r, b) ∧ (b = true → r.length = L.length ∧ r.length ≤ 8 ∧ ∀ l ∈ r, Good l) := by
  by_cases h : L.length > 8
  · refine ⟨[], false, ⟨0, fun k hq => ?_⟩, fun e => by cases e⟩
    simp only [moultlaw12_rows.f]
    rw [if_pos (by omega)]
  · have key : ∀ (n i : Nat) (A : List (List S36)), n = L.length - i → i ≤ L.length → A.length = i → (∀ l ∈ A, Good l) → ∃ r b, Ev (fun k => moultlaw12_rows.l0 k L A (i : Int)) (r, b) ∧ (b = true → r.length = L.length ∧ ∀ l ∈ r, Good l) := by
      intro n
      induction n with
      | zero =>
        intro i A h1 h2 h3 h4
        refine ⟨A, true, ⟨1, fun k hq => ?_⟩, fun _ => ⟨by omega, h4⟩⟩
        obtain ⟨m, rfl⟩ : ∃ m, k = m + 1 := ⟨k - 1, by omega⟩
        simp only [moultlaw12_rows.l0]
        rw [if_neg (by omega)]
      | succ n ih =>
        intro i A h1 h2 h3 h4
        obtain ⟨b, ⟨K, e⟩, hb⟩ := small_ev (rd_L4 L (i : Int))
        cases b with
        | false =>
          refine ⟨[], false, ⟨K + 1, fun k hq => ?_⟩, fun e => by cases e⟩
          obtain ⟨m, rfl⟩ : ∃ m, k = m + 1 := ⟨k - 1, by omega⟩
          have e := e m (by omega)
          dsimp only at e ⊢
          simp only [moultlaw12_rows.l0]
          rw [if_pos (by omega), if_pos (by omega), e]
          rfl
        | true =>
          obtain ⟨g1, g2⟩ := hb rfl
          obtain ⟨K2, e2⟩ := rmerge_ev (L := [rd_L4 L (i : Int)]) (by simp) (by simpa using fun x hx => (g2 x hx).fit) (by simp; omega)
          obtain ⟨r, b, ⟨K3, e3⟩, hr⟩ := ih (i + 1) (A ++ [row (rd_L4 L (i : Int))]) (by omega) (by omega) (by simp; omega) (by
            intro l hl
            rcases List.mem_append.mp hl with hl | hl
            · exact h4 l hl
            · rw [List.mem_singleton.mp hl]; exact row_good g1 g2)
          refine ⟨r, b, ⟨K + K2 + K3 + 1, fun k hq => ?_⟩, hr⟩
          obtain ⟨m, rfl⟩ : ∃ m, k = m + 1 := ⟨k - 1, by omega⟩
          have e := e m (by omega)
          have e2 := e2 m (by omega)
          have e3 := e3 m (by omega)
          dsimp only at e e2 e3 ⊢
          simp only [moultlaw12_rows.l0]
          rw [if_pos (by omega), if_pos (by omega), e]
          simp only [Option.bind_some, if_true]
          rw [e2]
          simp only [Option.bind_some]
          rw [if_pos (by omega), w64 (by omega) (by omega), ← Int.natCast_succ]
          simp only [List.flatten_cons, List.flatten_nil, List.append_nil]
          exact e3
    obtain ⟨r, b, ⟨K, e⟩, hr⟩ := key L.length 0 [] (by omega) (by omega) rfl (by simp)
    refine ⟨r, b, ⟨K, fun k hq => ?_⟩, fun e2 => ⟨(hr e2).1, by have := (hr e2).1; omega, (hr e2).2⟩⟩
    simp only [moultlaw12_rows.f]
    rw [if_neg (by omega)]
    exact e k hq
/-- A row is the same as itself. -/
theorem same_ev (l : List S36) (hn : l.length < 100000) : Ev (fun k => moultlaw12_same.f k l l) true := by
  have key : ∀ (n i : Nat), n = l.length - i → i ≤ l.length → Ev (fun k => moultlaw12_same.l0 k l l (i : Int)) true := by
    intro n
    induction n with
    | zero =>
      intro i h1 h2
      refine ⟨1, fun k hq => ?_⟩
      obtain ⟨m, rfl⟩ : ∃ m, k = m + 1 := ⟨k - 1, by omega⟩
      simp only [moultlaw12_same.l0]
      rw [if_neg (by omega)]
    | succ n ih =>
      intro i h1 h2
      obtain ⟨K, e⟩ := ih (i + 1) (by omega) (by omega)
      refine ⟨K + 1, fun k hq => ?_⟩
      obtain ⟨m, rfl⟩ : ∃ m, k = m + 1 := ⟨k - 1, by omega⟩
      have e := e m (by omega)
      dsimp only at e ⊢
      simp only [moultlaw12_same.l0]
      rw [if_pos (by omega), if_pos (by omega), if_pos (by omega), if_neg (by simp), w64 (by omega) (by omega), ← Int.natCast_succ, e]
  obtain ⟨K, e⟩ := key l.length 0 (by omega) (by omega)
  refine ⟨K, fun k hq => ?_⟩
  simp only [moultlaw12_same.f]
  rw [if_pos trivial]
  exact e k hq
theorem flat_len : ∀ {r : List (List S36)} {n : Nat}, (∀ l ∈ r, Good l) → r.length ≤ n → r.flatten.length ≤ 60 * n
  | [], n, _, _ => by simp
  | l :: r, n, h, hn => by
    have h1 := (h l (by simp)).2.1
    have h2 := flat_len (r := r) (n := n - 1) (fun x hx => h x (by simp [hx])) (by simp at hn; omega)
    simp only [List.flatten_cons, List.length_append]
    simp only [List.length_cons] at hn
    omega
end Go.Proofs.Ythdoanbadhfhjaa.Mrg
