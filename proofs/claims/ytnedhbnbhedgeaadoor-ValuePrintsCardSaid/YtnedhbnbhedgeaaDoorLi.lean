/- Limits of printed functions: a function without a bound on rounds, and its equation. -/
import Derived.Test.YtnedhbnbhedgeaaDoorWWords
namespace Go.Proofs.YtnedhbnbhedgeaaDoor
open Go.Proofs.YtnedhbnbhedgeaaDoorW.PrintWords
set_option linter.unusedVariables false
/-- v is what g comes to. -/
def IsLim {α : Type} (g : Nat → Option α) (v : Option α) : Prop := (∀ k, LeO (g k) v) ∧ ∀ r, v = some r → Ev g r
noncomputable def lim {α : Type} (g : Nat → Option α) : Option α := by
  classical exact if h : ∃ r, ∃ k, g k = some r then some h.choose else none
theorem lim_some {α : Type} {g : Nat → Option α} {r : α} (h : lim g = some r) : ∃ k, g k = some r := by
  classical
  unfold lim at h
  split at h
  case isTrue hx =>
    have h1 := hx.choose_spec
    rw [Option.some.inj h] at h1
    exact h1
  case isFalse => cases h
theorem isLim_lim {α : Type} {g : Nat → Option α} (hg : ∀ k, LeO (g k) (g (k + 1))) : IsLim g (lim g) := by
  classical
  refine ⟨fun k r hr => ?_, fun r hr => ?_⟩
  · have hx : ∃ r, ∃ k, g k = some r := ⟨r, k, hr⟩
    obtain ⟨k2, h2⟩ : ∃ k, g k = some hx.choose := hx.choose_spec
    have e1 := at_rounds hg (Nat.le_max_left k k2) hr
    have e2 := at_rounds hg (Nat.le_max_right k k2) h2
    unfold lim
    rw [dif_pos hx]
    rw [e1] at e2
    exact e2.symm
  · obtain ⟨k, h⟩ := lim_some hr
    exact Ev.of hg h
theorem IsLim.unique {α : Type} {g : Nat → Option α} {u v : Option α} (h1 : IsLim g u) (h2 : IsLim g v) : u = v := by
  cases u with
  | some r => obtain ⟨k, h⟩ := (h1.2 r rfl).rounds; exact (h2.1 k r h).symm
  | none => cases v with
    | none => rfl
    | some r => obtain ⟨k, h⟩ := (h2.2 r rfl).rounds; exact h1.1 k r h
theorem IsLim.const {α : Type} (v : Option α) : IsLim (fun _ => v) v := ⟨fun _ => LeO.refl _, fun r h => ⟨0, fun _ _ => h⟩⟩
theorem IsLim.ite {α : Type} {c : Prop} [Decidable c] {a b : Nat → Option α} {u v : Option α} (ha : IsLim a u) (hb : IsLim b v) : IsLim (fun k => if c then a k else b k) (if c then u else v) := by
  by_cases h : c
  · simp only [if_pos h]; exact ha
  · simp only [if_neg h]; exact hb
theorem IsLim.bind {α β : Type} {g : Nat → Option α} {h : Nat → α → Option β} {v : Option α} {u : α → Option β} (hg : IsLim g v) (hh : ∀ x, IsLim (fun k => h k x) (u x)) : IsLim (fun k => (g k).bind (h k)) (v.bind u) := by
  refine ⟨fun k => LeO.bind (hg.1 k) (fun x => (hh x).1 k), fun r hr => ?_⟩
  cases v with
  | none => cases hr
  | some a => exact Ev.bind (hg.2 a rfl) ((hh a).2 r hr)
theorem IsLim.succ {α : Type} {g : Nat → Option α} {v : Option α} (hg : ∀ k, LeO (g k) (g (k + 1))) (h : IsLim (fun k => g (k + 1)) v) : IsLim g v :=
  ⟨fun k => (hg k).trans (h.1 k), fun r hr => Ev.step (fun _ => rfl) (h.2 r hr)⟩
theorem IsLim.ev {α : Type} {g : Nat → Option α} {v : Option α} {r : α} (h : IsLim g v) (hr : v = some r) : Ev g r := h.2 r hr
theorem IsLim.of_ev {α : Type} {g : Nat → Option α} {v : Option α} {r : α} (h : IsLim g v) (hr : Ev g r) : v = some r := by
  obtain ⟨k, e⟩ := hr.rounds
  exact h.1 k r e
end Go.Proofs.YtnedhbnbhedgeaaDoor
