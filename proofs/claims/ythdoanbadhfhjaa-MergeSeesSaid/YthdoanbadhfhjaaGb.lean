/- The contracts of slices.Sort at ints and of merge.newest, in the form of the printed contracts. -/
import Derived.Test.YthdoanbadhfhjaaGa
import Derived.Test.YthdoanbadhfhjaaSi
import Derived.Lib.SliceRun
import Derived.Sort.OwnSorted
namespace Go.Proofs.Ythdoanbadhfhjaa
open Go.RowKit Go.Proofs.Ythdoanbadhfhjaa.PAll Go.Proofs.YthdoanbadhfhjaaW.PrintWords Go.Proofs.YthdoanbadhfhjaaW.PrintLast Go.Proofs.YthdoanbadhfhjaaW.PrintMore Go.Shelf
set_option linter.unusedVariables false

theorem kept_grow {w W : World} {os : Array Obj} {P : Nat → Prop} (h : Kept w W P) : Kept w (Sort.grow W os) P := by
  refine ⟨Nat.le_trans h.1 (by simp [Sort.grow]), fun i hi hn => ?_⟩
  rw [← h.2 i hi hn]
  have hW : i < W.heap.size := Nat.lt_of_lt_of_le hi h.1
  simp [Sort.grow, Array.getElem?_append_left hW]
theorem below_growS {B : Nat} {w W : World} (h : Below B w W) (hB : B ≤ W.heap.size) (os : Array Obj) : Below B w (Sort.grow W os) :=
  ⟨h.os, h.tape, h.output, Nat.le_trans h.size (by simp [Sort.grow]), fun k hk => by
    rw [← h.block k hk]
    simp [Sort.grow, Array.getElem?_append_left (show k < W.heap.size by omega)]⟩
theorem own_grow {w : World} {base e n : Nat} {v : Value} {xs : List Value} (os : Array Obj) (h : w.ownsRow base e 1 v n xs) : (Sort.grow w os).ownsRow base e 1 v n xs :=
  own_move h (fun k hk => by
    have hl := own_lt h k hk
    simp [Sort.grow, Array.getElem?_append_left hl])

def slices_Sort_int_int.f (l0 : List Int) : Option (List Int) := if l0.length < 4611686018427387904 then some (l0.mergeSort fun x y => decide (x ≤ y)) else none
theorem slices_Sort_int_int.calls (P0_ : Nat → Prop) (u9000_ : Value) (l0 : List Int) (r : List Int) (w0 w : World) (hB : Below w0.heap.size w0 w) (ho0 : Kd.R (Kd.int .i64) 3 w w0.heap.size P0_ u9000_ l0) (h : slices_Sort_int_int.f l0 = some r) :
    Calls Try.prog 31 #[u9000_] w fun e w' => e = .returned (.tuple #[]) ∧ Kd.R (Kd.int .i64) 3 w' w0.heap.size (fun k_ => (P0_ k_ ∨ w.heap.size ≤ k_)) u9000_ r ∧ Below w0.heap.size w0 w' ∧ Kept w w' (fun k_ => P0_ k_) := by
  unfold slices_Sort_int_int.f at h
  split at h
  case isFalse => cases h
  case isTrue hlt =>
  cases h
  have hown := Kd.own_of_R ho0
  by_cases hv : u9000_ = .slice none 0 0
  · subst hv
    have h0 : l0 = [] := by
      rcases hown.2 with ⟨_, hn⟩ | ⟨g, cap, cur, e, _⟩
      · exact List.eq_nil_of_length_eq_zero hn
      · cases e
    subst h0
    refine (Any.slices_Sort_int_none Try.lays189 none 0 w).mono ?_
    rintro e w' ⟨rfl, rfl⟩
    exact ⟨rfl, by simpa using Kd.R_nil _ _ _ _ _, hB, Kept.refl _ _⟩
  · obtain ⟨g, cap, rfl, hbg, hgl, hn, hcm, _, hH⟩ := Lib.holds_of_ownsRow hown hv
    have hPg : P0_ g := ho0.1 g rfl
    refine (Any.slices_Sort_int Try.lays189 g 0 cap l0 w hH hgl hlt).mono ?_
    rintro e w' ⟨rfl, q, os, rfl⟩
    have hsz : w0.heap.size ≤ w.heap.size := hB.size
    refine ⟨rfl, ?_, below_growS (Lib.below_putRow hB hbg) (by simp [Sort.putRow, Sort.mapBlock, Sort.ahead]; omega) os, kept_grow (kept_putRow hPg)⟩
    have h2 := Lib.ownsRow_putRow (q := q) (k := l0.length) (ys := l0.mergeSort fun x y => decide (x ≤ y)) hown (by simp) (Nat.le_refl _)
    rw [List.take_of_length_le (by simp)] at h2
    have h3 := own_grow os h2
    rw [show l0.length = (l0.mergeSort fun x y => decide (x ≤ y)).length from by simp] at h3
    have h4 := Kd.R_of_own (h1 := fun _ => rfl) h3 (fun k hk => show P0_ k ∨ w.heap.size ≤ k by
      have : g = k := by simpa [Value.ownBlock] using hk
      subst this
      exact .inl hPg)
    rw [show (l0.mergeSort fun x y => decide (x ≤ y)).length = l0.length from by simp] at h4
    exact h4

instance : Inhabited S36 := ⟨z36⟩
def enc36 (x : S36) : List Value := [.string x.f0, .int .i64 x.f1, .bool x.f2, .string x.f3]
theorem newest_pred (n : Int) (B : Nat) (w : World) (hB : B < w.heap.size) (hcell : w.cell? ⟨B, 0, none⟩ = some (.int .i64 n)) :
    PredBelow Try.prog 39 #[.pointer (some ⟨B, 0, none⟩)] (fun x => .agg (enc36 x).toArray) (fun x => decide (x.f1 ≤ n)) w := fun W x hb => by
  have hc : W.cell? ⟨B, 0, none⟩ = some (.int .i64 n) := (hb.cell (p := ⟨B, 0, none⟩) hB).trans hcell
  have hBW : B < W.heap.size := Nat.lt_of_lt_of_le hB hb.size
  have hne : B ≠ W.heap.size := by omega
  show Calls Try.prog 39 #[.agg #[.string x.f0, .int .i64 x.f1, .bool x.f2, .string x.f3], .pointer (some ⟨B, 0, none⟩)] W _
  go_enter Try.func39, Try.ntmps39
  go_wp2
  all_goals (go_ret; exact ⟨by simp_all, hb.alloc hb.size _⟩)

def merge_newest.f (l0 : List S36) (a1 : Int) : Option Int := if 0 < l0.length ∧ l0.length ≤ 9223372036854775807 then some (Lib.idxBy (fun _ y => decide (y.f1 ≤ a1)) l0 default) else none
theorem merge_newest.calls (A0 : Option Addr) (c0 : Nat) (l0 : List S36) (a1 : Int) (r : Int) (w : World) (hr0 : Kd.C k36 w A0 l0.length l0) (hc0 : l0.length ≤ c0) (h : merge_newest.f l0 a1 = some r) :
    Calls Try.prog 29 #[.slice A0 l0.length c0, .int .i64 a1] w fun e w' => e = .returned (.int .i64 r) ∧ Below w.heap.size w w' := by
  unfold merge_newest.f at h
  split at h
  case isFalse => cases h
  case isTrue hlt =>
  cases h
  obtain ⟨ad, rfl, hcell⟩ := hr0.2.2 hlt.1
  have eg : ∀ args w, (callFunc 39 args).run Try.prog w = .ok (.enter 39 args) w := enters_of Try.func39 (by kernel_rfl) rfl
  have hall : ∀ j, j < l0.length → ∀ i v, (enc36 l0[j]!)[i]? = some v → w.cell? (ad.add (j * 4 + i)) = some v := by
    intro j hj i v hv
    have e1 : l0[j]? = some l0[j]! := by rw [getElem!_pos l0 j hj]; exact List.getElem?_eq_getElem hj
    obtain ⟨c, hc, hk, hu⟩ := hcell j _ e1
    have hk2 := k36_open hk
    subst hk2
    exact hu i v hv
  have h00 : w.cell? ad = some (.string l0[0]!.f0) := by simpa [Addr.add] using hall 0 hlt.1 0 (.string l0[0]!.f0) rfl
  have hlt0 : ad.block < w.heap.size := World.block_lt_of_cell? w ad h00
  obtain ⟨b, off, spot⟩ := ad
  have hsp : spot = none := by
    cases spot with
    | none => rfl
    | some s =>
      exfalso
      unfold World.cell? at h00
      split at h00
      · simp at h00
      · cases h00
  subst hsp
  have hcon := AnyQ.slices_IndexFunc Try.laysIdx38 4 Try.isAgg36 Try.sizeOf36 enc36 (fun _ => rfl) (fun x => decide (x.f1 ≤ a1)) 39 #[.pointer (some ⟨w.heap.size, 0, none⟩)] eg b off l0.length c0 l0 (w.alloc (.cells #[.int .i64 a1] 3))
    (newest_pred a1 w.heap.size _ (by simp) (by simp)) (Nat.le_refl _) hlt.2 (Nat.lt_of_lt_of_le hlt0 (by simp)) (fun j hj i v hi => by
      refine Lib.cell?_alloc_some _ ?_
      have h1 := hall j hj i v hi
      by_cases hz : j * 4 + i = 0
      · rw [show off + j * 4 + i = off by omega]
        unfold Addr.add at h1
        rw [if_pos hz] at h1
        exact h1
      · unfold Addr.add at h1
        rw [if_neg hz] at h1
        rw [Nat.add_assoc]
        exact h1)
  change Calls Try.prog 38 _ _ _ at hcon
  clear hall hcell h00
  rw [List.take_of_length_le (Nat.le_refl _)] at hcon
  generalize Lib.idxBy (fun _ y => decide (y.f1 ≤ a1)) l0 default = r at hcon ⊢
  have HC := Aside0.mk hcon
  clear hcon hr0 hlt
  go_enter Try.func29, Try.ntmps29
  go_wp2_with (go_at_call 38; refine HC.out.mono ?_; rintro e w' ⟨rfl, hb'⟩)
  go_ret
  exact ⟨rfl, ((Below.refl _ w).alloc (Nat.le_refl _) _).trans (hb'.mono (by simp))⟩
end Go.Proofs.Ythdoanbadhfhjaa
