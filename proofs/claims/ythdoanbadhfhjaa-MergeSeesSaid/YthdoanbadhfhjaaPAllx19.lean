-- Laid by ownprint.py (a program of the session, in wip/tools), out of the translation: Lean checks it.
import Derived.Laws.Cover1
import Derived.Test.YthdoanbadhfhjaaPAllx0
import Derived.Test.YthdoanbadhfhjaaPAllx4
import Derived.Test.YthdoanbadhfhjaaPAllx6
import Derived.Test.YthdoanbadhfhjaaPAllx9
import Derived.Test.YthdoanbadhfhjaaPAllx12
import Derived.Test.YthdoanbadhfhjaaPAllx15
import Derived.Test.YthdoanbadhfhjaaGv
import Derived.Test.YthdoanbadhfhjaaGw
namespace Go.Proofs.Ythdoanbadhfhjaa.PAll
open Go.RowKit Go.Proofs.YthdoanbadhfhjaaW.PrintWords Go.Proofs.YthdoanbadhfhjaaW.PrintLast Go.Proofs.YthdoanbadhfhjaaW.PrintMore
attribute [local go_sem] max2_int min2_int max_two min_two max_three min_three max_four min_four   -- for this text's walks alone
set_option linter.unusedVariables false
set_option linter.unusedSimpArgs false

theorem less_flip : ∀ (a b : List UInt8), (Op.bytesLess a b || a == b) = !(Op.bytesLess b a)
  | [], [] => by simp [Op.bytesLess]
  | [], _ :: _ => by simp [Op.bytesLess]
  | _ :: _, [] => by simp [Op.bytesLess]
  | a :: x, b :: y => by
    have ih := less_flip x y
    simp only [Op.bytesLess]
    by_cases h1 : a < b
    · have h2 : ¬ b < a := fun h => UInt8.lt_irrefl _ (UInt8.lt_trans h1 h)
      have h3 : (b == a) = false := by rw [beq_eq_false_iff_ne]; rintro rfl; exact UInt8.lt_irrefl _ h1
      simp [h1, h2, h3]
    · by_cases h2 : b < a
      · have h3 : (a == b) = false := by rw [beq_eq_false_iff_ne]; rintro rfl; exact UInt8.lt_irrefl _ h2
        have h4 : (a :: x == b :: y) = false := by rw [beq_eq_false_iff_ne]; rintro h; cases h; exact UInt8.lt_irrefl _ h2
        simp [h1, h2, h3, h4]
      · have h3 : a = b := UInt8.le_antisymm (UInt8.not_lt.mp h2) (UInt8.not_lt.mp h1)
        subst h3
        simpa [h1] using ih
theorem leq_string (t : TypeId) (a b : ByteArray) : binOp .leq t (.string a) (.string b) = pure (.bool !(Op.bytesLess b.toList a.toList)) := by rw [binOp_string_leq, less_flip]
attribute [local go_sem high] leq_string
/-! ### moultlaw12_MergeSees: function 7 -/
mutual
def moultlaw12_MergeSees.l0 : Nat → Int → List (List (S36)) → List (S36) → Int → Option (Bool)
 | 0, _, _, _, _ => none
 | k + 1, x1, x6, x8, x9 => if x9 < (x8.length : Int) then (if 0 ≤ x9 then (if (rd_T36 x8 x9).f2 = true then (none) else (if ((rd_T36 x8 x9).f1) > x1 then (none) else (if x9 > 0 then (if 0 ≤ (wrap64 (x9 - 1)) then (if (wrap64 (x9 - 1)) < (x8.length : Int) then (if ((Op.bytesLess (((rd_T36 x8 (wrap64 (x9 - 1))).f0).toList) (((rd_T36 x8 x9).f0).toList)) = true) then ((moultlaw12_has.f k x6 ((rd_T36 x8 x9).f0) ((rd_T36 x8 x9).f1) ((rd_T36 x8 x9).f2) ((rd_T36 x8 x9).f3)).bind fun t592 => (moultlaw12_MergeSees.j1 k x1 x6 x8 x9 (!t592))) else (none)) else (none)) else (none)) else ((moultlaw12_has.f k x6 ((rd_T36 x8 x9).f0) ((rd_T36 x8 x9).f1) ((rd_T36 x8 x9).f2) ((rd_T36 x8 x9).f3)).bind fun t594 => (moultlaw12_MergeSees.j1 k x1 x6 x8 x9 (!t594)))))) else (none)) else ((merge_Visible.f k x8 x1).bind fun t604 => ((moultlaw12_same.f k t604 x8).bind fun t607 => (if t607 = true then (if 0 < (x6.length : Int) then ((merge_Visible.f k (rd_L4 x6 0) (-1)).bind fun t609 => (some ((t609.length : Int) == 0))) else (none)) else (none))))
def moultlaw12_MergeSees.j1 : Nat → Int → List (List (S36)) → List (S36) → Int → Bool → Option (Bool)
 | 0, _, _, _, _, _ => none
 | k + 1, x1, x6, x8, x9, x77 => if x77 = true then (none) else (moultlaw12_MergeSees.l1 k x1 x6 x8 x9 0)
def moultlaw12_MergeSees.l1 : Nat → Int → List (List (S36)) → List (S36) → Int → Int → Option (Bool)
 | 0, _, _, _, _, _ => none
 | k + 1, x1, x6, x8, x9, x10 => if 0 < (x6.length : Int) then (if x10 < ((rd_L4 x6 0).length : Int) then (if 0 ≤ x10 then (if 0 ≤ x9 then (if x9 < (x8.length : Int) then (if ((rd_T36 (rd_L4 x6 0) x10).f0).toList = ((rd_T36 x8 x9).f0).toList then (if ((rd_T36 (rd_L4 x6 0) x10).f1) > ((rd_T36 x8 x9).f1) then (moultlaw12_MergeSees.j3 k x1 x6 x8 x9 x10 (decide (((rd_T36 (rd_L4 x6 0) x10).f1) ≤ x1))) else (moultlaw12_MergeSees.j3 k x1 x6 x8 x9 x10 false)) else (moultlaw12_MergeSees.j3 k x1 x6 x8 x9 x10 false)) else (none)) else (none)) else (none)) else (moultlaw12_MergeSees.l0 k x1 x6 x8 (wrap64 (x9 + 1)))) else (none)
def moultlaw12_MergeSees.j3 : Nat → Int → List (List (S36)) → List (S36) → Int → Int → Bool → Option (Bool)
 | 0, _, _, _, _, _, _ => none
 | k + 1, x1, x6, x8, x9, x10, x124 => if x124 = true then (none) else (moultlaw12_MergeSees.l1 k x1 x6 x8 x9 (wrap64 (x10 + 1)))
end
def moultlaw12_MergeSees.f (k : Nat) (l0 : List (S36)) (a1 : Int) : Option (Bool) := (moultlaw12_shown.f k).bind fun t575 => ((moultlaw12_rows.f k (([l0] : List (List (S36))))).bind fun bt579 => (if t575 = true then (if bt579.2 = true then (if 0 < (bt579.1.length : Int) then ((merge_Visible.f k (rd_L4 bt579.1 0) a1).bind fun t584 => (moultlaw12_MergeSees.l0 k a1 bt579.1 t584 0)) else (none)) else (some t575)) else (none)))
theorem moultlaw12_MergeSees.mono_l : ∀ k, (∀ y0 y1 y2 y3, LeO (moultlaw12_MergeSees.l0 k y0 y1 y2 y3) (moultlaw12_MergeSees.l0 (k + 1) y0 y1 y2 y3)) ∧ (∀ y0 y1 y2 y3 y4, LeO (moultlaw12_MergeSees.j1 k y0 y1 y2 y3 y4) (moultlaw12_MergeSees.j1 (k + 1) y0 y1 y2 y3 y4)) ∧ (∀ y0 y1 y2 y3 y4, LeO (moultlaw12_MergeSees.l1 k y0 y1 y2 y3 y4) (moultlaw12_MergeSees.l1 (k + 1) y0 y1 y2 y3 y4)) ∧ (∀ y0 y1 y2 y3 y4 y5, LeO (moultlaw12_MergeSees.j3 k y0 y1 y2 y3 y4 y5) (moultlaw12_MergeSees.j3 (k + 1) y0 y1 y2 y3 y4 y5))
 | 0 => ⟨fun _ _ _ _ r h => by simp [moultlaw12_MergeSees.l0] at h, fun _ _ _ _ _ r h => by simp [moultlaw12_MergeSees.j1] at h, fun _ _ _ _ _ r h => by simp [moultlaw12_MergeSees.l1] at h, fun _ _ _ _ _ _ r h => by simp [moultlaw12_MergeSees.j3] at h⟩
 | k + 1 => by
  obtain ⟨ih0, ih1, ih2, ih3⟩ := moultlaw12_MergeSees.mono_l k
  refine ⟨?_, ?_, ?_, ?_⟩
  ·intro y0 y1 y2 y3
   unfold moultlaw12_MergeSees.l0
   repeat' first
   | (with_reducible exact ih0 _ _ _ _)
   | (with_reducible exact ih1 _ _ _ _ _)
   | (with_reducible exact ih2 _ _ _ _ _)
   | (with_reducible exact ih3 _ _ _ _ _ _)
   | (with_reducible exact merge_Visible.mono _ _ _)
   | (with_reducible exact moultlaw12_has.mono _ _ _ _ _ _)
   | (with_reducible exact moultlaw12_rows.mono _ _)
   | (with_reducible exact moultlaw12_same.mono _ _ _)
   | (with_reducible exact moultlaw12_shown.mono _)
   | (with_reducible exact LeO.refl _)
   | (with_reducible exact LeO.none _)
   | (with_reducible refine LeO.ite ?_ ?_)
   | (with_reducible refine LeO.bind ?_ (fun _ => ?_))
   | exact ih0 _ _ _ _
   | exact ih1 _ _ _ _ _
   | exact ih2 _ _ _ _ _
   | exact ih3 _ _ _ _ _ _
   | exact merge_Visible.mono _ _ _
   | exact moultlaw12_has.mono _ _ _ _ _ _
   | exact moultlaw12_rows.mono _ _
   | exact moultlaw12_same.mono _ _ _
   | exact moultlaw12_shown.mono _
   | exact LeO.none _
   | refine LeO.ite ?_ ?_
   | refine LeO.bind ?_ (fun _ => ?_)
  ·intro y0 y1 y2 y3 y4
   unfold moultlaw12_MergeSees.j1
   repeat' first
   | (with_reducible exact ih0 _ _ _ _)
   | (with_reducible exact ih1 _ _ _ _ _)
   | (with_reducible exact ih2 _ _ _ _ _)
   | (with_reducible exact ih3 _ _ _ _ _ _)
   | (with_reducible exact merge_Visible.mono _ _ _)
   | (with_reducible exact moultlaw12_has.mono _ _ _ _ _ _)
   | (with_reducible exact moultlaw12_rows.mono _ _)
   | (with_reducible exact moultlaw12_same.mono _ _ _)
   | (with_reducible exact moultlaw12_shown.mono _)
   | (with_reducible exact LeO.refl _)
   | (with_reducible exact LeO.none _)
   | (with_reducible refine LeO.ite ?_ ?_)
   | (with_reducible refine LeO.bind ?_ (fun _ => ?_))
   | exact ih0 _ _ _ _
   | exact ih1 _ _ _ _ _
   | exact ih2 _ _ _ _ _
   | exact ih3 _ _ _ _ _ _
   | exact merge_Visible.mono _ _ _
   | exact moultlaw12_has.mono _ _ _ _ _ _
   | exact moultlaw12_rows.mono _ _
   | exact moultlaw12_same.mono _ _ _
   | exact moultlaw12_shown.mono _
   | exact LeO.none _
   | refine LeO.ite ?_ ?_
   | refine LeO.bind ?_ (fun _ => ?_)
  ·intro y0 y1 y2 y3 y4
   unfold moultlaw12_MergeSees.l1
   repeat' first
   | (with_reducible exact ih0 _ _ _ _)
   | (with_reducible exact ih1 _ _ _ _ _)
   | (with_reducible exact ih2 _ _ _ _ _)
   | (with_reducible exact ih3 _ _ _ _ _ _)
   | (with_reducible exact merge_Visible.mono _ _ _)
   | (with_reducible exact moultlaw12_has.mono _ _ _ _ _ _)
   | (with_reducible exact moultlaw12_rows.mono _ _)
   | (with_reducible exact moultlaw12_same.mono _ _ _)
   | (with_reducible exact moultlaw12_shown.mono _)
   | (with_reducible exact LeO.refl _)
   | (with_reducible exact LeO.none _)
   | (with_reducible refine LeO.ite ?_ ?_)
   | (with_reducible refine LeO.bind ?_ (fun _ => ?_))
   | exact ih0 _ _ _ _
   | exact ih1 _ _ _ _ _
   | exact ih2 _ _ _ _ _
   | exact ih3 _ _ _ _ _ _
   | exact merge_Visible.mono _ _ _
   | exact moultlaw12_has.mono _ _ _ _ _ _
   | exact moultlaw12_rows.mono _ _
   | exact moultlaw12_same.mono _ _ _
   | exact moultlaw12_shown.mono _
   | exact LeO.none _
   | refine LeO.ite ?_ ?_
   | refine LeO.bind ?_ (fun _ => ?_)
  ·intro y0 y1 y2 y3 y4 y5
   unfold moultlaw12_MergeSees.j3
   repeat' first
   | (with_reducible exact ih0 _ _ _ _)
   | (with_reducible exact ih1 _ _ _ _ _)
   | (with_reducible exact ih2 _ _ _ _ _)
   | (with_reducible exact ih3 _ _ _ _ _ _)
   | (with_reducible exact merge_Visible.mono _ _ _)
   | (with_reducible exact moultlaw12_has.mono _ _ _ _ _ _)
   | (with_reducible exact moultlaw12_rows.mono _ _)
   | (with_reducible exact moultlaw12_same.mono _ _ _)
   | (with_reducible exact moultlaw12_shown.mono _)
   | (with_reducible exact LeO.refl _)
   | (with_reducible exact LeO.none _)
   | (with_reducible refine LeO.ite ?_ ?_)
   | (with_reducible refine LeO.bind ?_ (fun _ => ?_))
   | exact ih0 _ _ _ _
   | exact ih1 _ _ _ _ _
   | exact ih2 _ _ _ _ _
   | exact ih3 _ _ _ _ _ _
   | exact merge_Visible.mono _ _ _
   | exact moultlaw12_has.mono _ _ _ _ _ _
   | exact moultlaw12_rows.mono _ _
   | exact moultlaw12_same.mono _ _ _
   | exact moultlaw12_shown.mono _
   | exact LeO.none _
   | refine LeO.ite ?_ ?_
   | refine LeO.bind ?_ (fun _ => ?_)
theorem moultlaw12_MergeSees.mono : ∀ a0 a1 k, LeO (moultlaw12_MergeSees.f k a0 a1) (moultlaw12_MergeSees.f (k + 1) a0 a1) := by
 intro a0 a1 k
 obtain ⟨ih0, ih1, ih2, ih3⟩ := moultlaw12_MergeSees.mono_l k
 unfold moultlaw12_MergeSees.f
 repeat' first
   | (with_reducible exact ih0 _ _ _ _)
   | (with_reducible exact ih1 _ _ _ _ _)
   | (with_reducible exact ih2 _ _ _ _ _)
   | (with_reducible exact ih3 _ _ _ _ _ _)
   | (with_reducible exact merge_Visible.mono _ _ _)
   | (with_reducible exact moultlaw12_has.mono _ _ _ _ _ _)
   | (with_reducible exact moultlaw12_rows.mono _ _)
   | (with_reducible exact moultlaw12_same.mono _ _ _)
   | (with_reducible exact moultlaw12_shown.mono _)
   | (with_reducible exact LeO.refl _)
   | (with_reducible exact LeO.none _)
   | (with_reducible refine LeO.ite ?_ ?_)
   | (with_reducible refine LeO.bind ?_ (fun _ => ?_))
   | exact ih0 _ _ _ _
   | exact ih1 _ _ _ _ _
   | exact ih2 _ _ _ _ _
   | exact ih3 _ _ _ _ _ _
   | exact merge_Visible.mono _ _ _
   | exact moultlaw12_has.mono _ _ _ _ _ _
   | exact moultlaw12_rows.mono _ _
   | exact moultlaw12_same.mono _ _ _
   | exact moultlaw12_shown.mono _
   | exact LeO.none _
   | refine LeO.ite ?_ ?_
   | refine LeO.bind ?_ (fun _ => ?_)
def moultlaw12_MergeSees.T9 : Bool × List (List Nat × List Nat) := (true, [([], []), ([], []), ([0, 1], [0, 1]), ([2], [2]), ([3], [3]), ([4], [4]), ([5], [5]), ([5], [5]), ([6, 7, 5], [5, 6, 7]), ([8, 5], [5, 8]), ([9, 5], [5, 9]), ([5], [5]), ([10, 11, 5], [5, 10, 11]), ([5, 12], [5, 12]), ([13, 5], [13]), ([14], [14]), ([15, 14], [14, 15]), ([16, 14, 14], [14, 16]), ([17], [17]), ([17], [17]), ([18, 19, 17], [17, 18, 19]), ([20, 17], [17, 20]), ([21, 17], [17, 21]), ([17], [17]), ([17], [17]), ([24, 17], [17, 24]), ([23, 25, 17], [17, 23, 25]), ([26, 17], [17, 26]), ([27, 17], [17, 27]), ([22, 28, 17], [17, 22, 28]), ([17, 29, 14], [14, 17, 29]), ([14, 30], [14, 30]), ([31, 17], [31]), ([32], [32]), ([32], [32]), ([32], [32]), ([34, 35, 32], [32, 34, 35]), ([36, 32], [32, 36]), ([33, 37, 32, 32], [32, 33, 37]), ([38, 32], [32, 38]), ([32, 39], [32, 39])])
def moultlaw12_MergeSees.B9 : List Nat := [0, 0, 3, 7, 15, 31, 63, 63, 255, 511, 1023, 63, 4095, 8191, 16383, 32767, 65535, 131071, 262143, 262143, 1048575, 2097151, 4194303, 262143, 262143, 17039359, 58982399, 126091263, 260308991, 536870911, 1073741823, 2147483647, 4294967295, 8589934591, 8589934591, 8589934591, 60129542143, 128849018879, 274877906943, 549755813887, 1099511627775]
theorem moultlaw12_MergeSees.tab9 : rtab .any (opsOf Try.f7 9) = moultlaw12_MergeSees.T9 := by kernel_rfl
theorem moultlaw12_MergeSees.bits9 : waitsOk moultlaw12_MergeSees.T9.2 moultlaw12_MergeSees.B9 = true := by kernel_rfl
def moultlaw12_MergeSees.T14 : Bool × List (List Nat × List Nat) := (true, [([], []), ([0], [0]), ([1], [1]), ([], []), ([2, 3], [2, 3]), ([4], [4]), ([5], [5]), ([], []), ([], []), ([7, 8], [7, 8]), ([9], [9]), ([10], [10]), ([6, 11], [6, 11]), ([12], [12]), ([13], [13]), ([14, 13], [13, 14]), ([15, 13], [13, 15]), ([13], [13]), ([16, 17, 13], [13, 16, 17]), ([18, 13], [13, 18]), ([19, 13], [13, 19]), ([13], [13]), ([13], [13]), ([21, 22, 13], [13, 21, 22]), ([23, 13], [13, 23]), ([24, 13], [13, 24]), ([20, 25, 13], [13, 20, 25]), ([13, 26], [13, 26]), ([27, 13], [27]), ([28], [28]), ([29, 28], [28, 29]), ([30, 28], [28, 30]), ([28], [28]), ([31, 32, 28], [28, 31, 32]), ([33, 28], [28, 33]), ([34, 28], [28, 34]), ([28], [28]), ([35, 36, 28], [28, 35, 36]), ([28, 37], [28, 37])])
def moultlaw12_MergeSees.B14 : List Nat := [0, 1, 3, 0, 15, 31, 63, 0, 0, 384, 896, 1920, 4095, 8191, 16383, 32767, 65535, 16383, 262143, 524287, 1048575, 16383, 16383, 6307839, 14696447, 31473663, 67108863, 134217727, 268435455, 536870911, 1073741823, 2147483647, 536870911, 8589934591, 17179869183, 34359738367, 536870911, 137438953471, 274877906943]
theorem moultlaw12_MergeSees.tab14 : rtab .any (opsOf Try.f7 14) = moultlaw12_MergeSees.T14 := by kernel_rfl
theorem moultlaw12_MergeSees.bits14 : waitsOk moultlaw12_MergeSees.T14.2 moultlaw12_MergeSees.B14 = true := by kernel_rfl
set_option maxHeartbeats 8000000 in
set_option maxRecDepth 100000 in
theorem moultlaw12_MergeSees.calls (k : Nat) (P0_ : Nat → Prop) (A0 : Option Addr) (c0 : Nat) (l0 : List (S36)) (a1 : Int) (r : Bool) (w : World) (hs0 : Kd.V k36 36 w w.heap.size (fun k_ => P0_ k_) (.slice A0 l0.length c0) l0) (h : moultlaw12_MergeSees.f k l0 a1 = some r) :
  Calls Try.prog 7 #[.slice A0 l0.length c0, .int .i64 a1] w fun e w' => e = .returned (.bool r) ∧ Below w.heap.size w w' := by
 have hu36 := Try.underlying36
 have HO0 := Aside0.mk (show Kd.V k36 36 w w.heap.size (fun k_ => (P0_ k_ ∨ w.heap.size ≤ k_)) (.slice A0 l0.length c0) l0 from Kd.V_mono hs0 (fun k_ hk => .inl hk))
 have HB := Aside0.mk (Below.refl w.heap.size w)
 have H : ((moultlaw12_shown.f k).bind fun t575 => ((moultlaw12_rows.f k (([l0] : List (List (S36))))).bind fun bt579 => (if t575 = true then (if bt579.2 = true then (if 0 < (bt579.1.length : Int) then ((merge_Visible.f k (rd_L4 bt579.1 0) a1).bind fun t584 => (moultlaw12_MergeSees.l0 k a1 bt579.1 t584 0)) else (none)) else (some t575)) else (none)))) = some r := h
 clear h
 replace H := Option.bind_eq_some_iff.mp H
 obtain ⟨t575, A30, H⟩ := H
 replace H : ((moultlaw12_rows.f k (([l0] : List (List (S36))))).bind fun bt579 => (if t575 = true then (if bt579.2 = true then (if 0 < (bt579.1.length : Int) then ((merge_Visible.f k (rd_L4 bt579.1 0) a1).bind fun t584 => (moultlaw12_MergeSees.l0 k a1 bt579.1 t584 0)) else (none)) else (some t575)) else (none))) = some r := H
 have A3 := Aside0.mk A30
 clear A30
 obtain ⟨y576, hy576⟩ : ∃ y_ : List (List (S36)), y_ = (([l0] : List (List (S36)))) := ⟨_, rfl⟩
 replace H : ((moultlaw12_rows.f k y576).bind fun bt579 => (if t575 = true then (if bt579.2 = true then (if 0 < (bt579.1.length : Int) then ((merge_Visible.f k (rd_L4 bt579.1 0) a1).bind fun t584 => (moultlaw12_MergeSees.l0 k a1 bt579.1 t584 0)) else (none)) else (some t575)) else (none))) = some r := by first | (rw [hy576]; with_reducible exact H) | (have H2_ := (Option.bind_some _ _).symm.trans H; rw [hy576]; with_reducible exact H2_) | (have H2_ := (Option.bind_some _ _).symm.trans H; with_reducible exact H2_) | with_reducible exact H | (rw [hy576]; exact H) | exact H
 have Ny576 := Aside0.mk hy576
 clear hy576
 replace H := Option.bind_eq_some_iff.mp H
 obtain ⟨⟨t579, t582⟩, A40, H⟩ := H
 replace H : (if t575 = true then (if t582 = true then (if 0 < (t579.length : Int) then ((merge_Visible.f k (rd_L4 t579 0) a1).bind fun t584 => (moultlaw12_MergeSees.l0 k a1 t579 t584 0)) else (none)) else (some t575)) else (none)) = some r := H
 have A4 := Aside0.mk A40
 clear A40
 by_cases c5 : t575 = true
 ·subst c5
  have H1 : (if t582 = true then (if 0 < (t579.length : Int) then ((merge_Visible.f k (rd_L4 t579 0) a1).bind fun t584 => (moultlaw12_MergeSees.l0 k a1 t579 t584 0)) else (none)) else (some true)) = some r := by rw [if_pos rfl] at H; exact H
  clear H
  have H := H1
  clear H1
  by_cases c6 : t582 = true
  ·subst c6
   have H1 : (if 0 < (t579.length : Int) then ((merge_Visible.f k (rd_L4 t579 0) a1).bind fun t584 => (moultlaw12_MergeSees.l0 k a1 t579 t584 0)) else (none)) = some r := by rw [if_pos rfl] at H; exact H
   clear H
   have H := H1
   clear H1
   by_cases c7 : 0 < (t579.length : Int)
   ·rw [if_pos c7] at H
    have c7b0 : decide (0 < (t579.length : Int)) = true := decide_eq_true c7
    have c7b1 : decide (0 < t579.length) = true := decide_eq_true (by omega)
    clear c7
    replace H := Option.bind_eq_some_iff.mp H
    obtain ⟨t584, A80, H⟩ := H
    replace H : (moultlaw12_MergeSees.l0 k a1 t579 t584 0) = some r := H
    have A8 := Aside0.mk A80
    clear A80
    have H' := Aside0.mk H
    clear H
    go_enter Try.func7, Try.ntmps7
    go_wp2_with (first | ((with_reducible refine gate_callee (f := 9) rfl ?_); refine goesL_ (some 12) rfl rfl Try.func9 (by kernel_rfl) rfl #[] rfl (by (try simp only [List.map_toArray, List.map_cons, List.map_nil]); first | done | rfl | (simp only [List.length_drop, List.length_take]; rfl)) ?_; (with_reducible refine (moultlaw12_shown.calls k  true _ A3.out).mono ?_); rintro e w9 ⟨rfl, hb⟩; refine ⟨_, rfl, ?_⟩; have n0_ := Aside0.mk (Kd.V_below (by (with_reducible repeat (first | apply Kd.V_alloc | apply Kd.V_drewN | apply Kd.V_drew)); exact HO0.out) hb); have n1_ := Aside0.mk (below_step (by repeat (first | (with_reducible first | exact HB.out | apply below_alloc | apply pw_below_drewN | apply below_drew1) | exact HB.out)) hb); clear HO0; clear HB; have HO0 := n0_; have HB := n1_; clear n0_ n1_; (try clear hb); (try clear hb2); (try clear hk); (try clear hi)) | ((with_reducible refine gate_dst (N := 15) rfl ?_); (try (refine gate_guard (by rfl) ?_; dsimp only)); refine Kd.N_lit (Kd.slice 36 k36) _ 27 ?hg (N' := 15) ?hd (xs := ([l0] : List (List (S36)))) (inner := [.slice A0 l0.length c0]) (ok := (fun k_ => (P0_ k_ ∨ w.heap.size ≤ k_))) (okp := (fun k_ => (P0_ k_ ∨ w.heap.size ≤ k_))) ?hr ?hp (fun _ hk => hk) ((show ∀ k_, w9.heap.size ≤ k_ → (fun k_ => (P0_ k_ ∨ w.heap.size ≤ k_)) k_ from fun k_ hk => (.inr (Nat.le_trans (below_size (by repeat (first | (with_reducible first | exact HB.out | apply below_alloc | apply pw_below_drewN | apply below_drew1) | exact HB.out))) hk))) _ (Nat.le_refl _)) (Below.refl _ _) (Nat.le_refl _) (by simp) ?_; (case hd => rfl); (case hg => rfl); (case hr => first | (go_simp; done) | (go_simp; rfl)); (case hp => first | exact (Reps.one (show Kd.FK (Kd.slice 36 k36) _ _ l0 [.slice A0 l0.length c0] from (Kd.FK_slice_mk (Kd.V_reads' (Kd.V_mono (ok' := (fun k_ => (P0_ k_ ∨ w.heap.size ≤ k_))) (HO0.out) (fun k_ hk => hk))).2.1 (Kd.V_F (Kd.V_mono (ok' := (fun k_ => (P0_ k_ ∨ w.heap.size ≤ k_))) (HO0.out) (fun k_ hk => hk))))) (Reps.none _ _)) | exact (Reps.one (show Kd.FK (Kd.slice 36 k36) _ _ l0 [.slice A0 l0.length c0] from (Kd.FK_slice_mk (Kd.V_reads' (Kd.V_mono (ok' := (fun k_ => (P0_ k_ ∨ w.heap.size ≤ k_))) (HO0.out) (fun k_ hk => hk))).2.1 (Kd.V_F (Kd.V_mono (ok' := (fun k_ => (P0_ k_ ∨ w.heap.size ≤ k_))) (Kd.V_drewN HO0.out _) (fun k_ hk => hk))))) (Reps.none _ _))); intro v577 w10 ho11 hb hg_ hnew_; clear hg_ hnew_; (first | rw [← Ny576.out] at ho11 | (simp only [Int.reduceToNat] at ho11; rw [← Ny576.out] at ho11)); have n0_ := Aside0.mk (Kd.V_elder' (by (with_reducible repeat (first | apply Kd.V_alloc | apply Kd.V_drewN | apply Kd.V_drew)); exact HO0.out) (Kd.N_base ho11) hb); have n1_ := Aside0.mk (Kd.N_lower ho11 (below_size (by repeat (first | (with_reducible first | exact HB.out | apply below_alloc | apply pw_below_drewN | apply below_drew1) | exact HB.out)))); have n2_ := Aside0.mk (below_step (by repeat (first | (with_reducible first | exact HB.out | apply below_alloc | apply pw_below_drewN | apply below_drew1) | exact HB.out)) hb); clear HO0; clear HB; have HO0 := n0_; have HO578 := n1_; have HB := n2_; clear n0_ n1_ n2_; clear hb ho11; obtain ⟨Ao12, co12, eo12⟩ := Kd.N_slice HO578.out; subst eo12) | ((with_reducible refine gate_callee (f := 10) rfl ?_); refine goesL_ (some 16) rfl rfl Try.func10 (by kernel_rfl) rfl #[.slice Ao12 y576.length co12] rfl (by (try simp only [List.map_toArray, List.map_cons, List.map_nil]); first | done | rfl | (simp only [List.length_drop, List.length_take]; rfl)) ?_; (with_reducible refine (moultlaw12_rows.calls k (fun k_ => (P0_ k_ ∨ w.heap.size ≤ k_)) _ _ y576 t579 true _ ?side1 A4.out).mono ?_); (case side1 => exact Kd.N_V (HO578.out)); rintro e w13 ⟨v580, rfl, ho0, hb⟩; refine ⟨_, rfl, ?_⟩; have n0_ := Aside0.mk (Kd.V_elder' (by (with_reducible repeat (first | apply Kd.V_alloc | apply Kd.V_drewN | apply Kd.V_drew)); exact HO0.out) (Kd.N_base ho0) hb); have n1_ := Aside0.mk (Kd.N_elder' (by (with_reducible repeat (first | apply Kd.N_alloc | apply Kd.N_drewN | apply Kd.N_drew)); exact HO578.out) (Kd.N_base ho0) hb); have n2_ := Aside0.mk (Kd.N_lower (Kd.N_mono (ok' := fun k_ => (P0_ k_ ∨ w.heap.size ≤ k_)) ho0 (fun k_ hk_ => Or.elim hk_ (fun hs_ => hs_) (fun hn_ => (.inr (Nat.le_trans (below_size (by repeat (first | (with_reducible first | exact HB.out | apply below_alloc | apply pw_below_drewN | apply below_drew1) | exact HB.out))) hn_))))) (below_size (by repeat (first | (with_reducible first | exact HB.out | apply below_alloc | apply pw_below_drewN | apply below_drew1) | exact HB.out)))); have n3_ := Aside0.mk (below_step (by repeat (first | (with_reducible first | exact HB.out | apply below_alloc | apply pw_below_drewN | apply below_drew1) | exact HB.out)) hb); clear HO0; clear HO578; clear HB; have HO0 := n0_; have HO578 := n1_; have HO581 := n2_; have HB := n3_; clear n0_ n1_ n2_ n3_; (try clear hb); (try clear hb2); (try clear hk); (try clear hi); (try clear ho0); obtain ⟨Ao14, co14, eo14⟩ := Kd.N_slice HO581.out; subst eo14; have p583 : 0 ≤ (0 : Int) := (by omega); have q583 : 0 < (t579.length : Int) := of_decide_eq_true (by first | (with_reducible assumption) | assumption); obtain ⟨ad583, A583_0, c583_0, e583, hx583_0, hl583_0, hi583_0⟩ := at_L4 (Kd.N_reads' HO581.out).2.2 0 p583 q583; cases e583; obtain ⟨ce583, hce583, hMe583, hcc583⟩ := Kd.N_get HO581.out [] 0 p583 (by first | exact q583 | exact of_decide_eq_true (by first | (with_reducible assumption) | assumption) | (have e_ := (Kd.N_reads' HO581.out).1; omega)); obtain ⟨ua583_0, uc583_0, rfl, ul583_0, ge583_0⟩ := Kd.FK_slice_open hMe583; have hv583_0 := hcc583 0 _ rfl; rw [Nat.add_zero, show ((Kd.slice 36 k36)).sz = 1 from rfl, Nat.mul_one] at hv583_0; replace hv583_0 := Option.some.inj (hv583_0.symm.trans hx583_0); injection hv583_0 with hva_ hvn_ hvc_; rw [hva_] at ge583_0; rw [hvc_] at ul583_0; have HL583_0 := Aside0.mk (show Kd.V k36 36 _ w.heap.size _ _ (rd_L4 t579 0) from Kd.V_mk ul583_0 ge583_0); clear hva_ hvn_ hvc_ ge583_0 ul583_0; clear hcc583 hce583; have qi583 : (0 < t579.length) = True := eq_true (by omega); (try rw [show ((0 : Int)).toNat = 0 from rfl] at hx583_0); (try rw [Addr.add_zero'] at hx583_0); have HR583_0 := Aside0.mk hi583_0; have HC583_0 := Aside0.mk hl583_0; clear hi583_0 hl583_0; replace p583 := eq_true p583; replace q583 := eq_true q583) | ((with_reducible refine gate_callee (f := 14) rfl ?_); refine goesL_ (some 30) rfl rfl Try.func14 (by kernel_rfl) rfl #[.slice A583_0 (rd_L4 t579 0).length c583_0, .int .i64 a1] rfl (by (try simp only [List.map_toArray, List.map_cons, List.map_nil]); first | done | rfl | (simp only [List.length_drop, List.length_take]; rfl)) ?_; (with_reducible refine (merge_Visible.calls k _ _ (rd_L4 t579 0) a1 t584 _ ?side1 ?side2 A8.out).mono ?_); (case side1 => repeat (first | exact (by repeat (first | (with_reducible exact HR583_0.out) | (with_reducible refine Kd.C_alloc ?_ _) | (with_reducible refine Kd.C_drewN ?_ _) | (with_reducible refine Kd.C_drew ?_) | exact HR583_0.out)) | (with_reducible refine Kd.C_alloc ?_ _) | (with_reducible refine Kd.C_drewN ?_ _) | (with_reducible refine Kd.C_drew ?_))); (case side2 => exact HC583_0.out); rintro e w15 ⟨v585, rfl, ho0, hb⟩; refine ⟨_, rfl, ?_⟩; have n0_ := Aside0.mk (Kd.V_elder' (by (with_reducible repeat (first | apply Kd.V_alloc | apply Kd.V_drewN | apply Kd.V_drew)); exact HO0.out) (Kd.R_base ho0) hb); have n1_ := Aside0.mk (Kd.N_elder' (by (with_reducible repeat (first | apply Kd.N_alloc | apply Kd.N_drewN | apply Kd.N_drew)); exact HO578.out) (Kd.R_base ho0) hb); have n2_ := Aside0.mk (Kd.N_elder' (by (with_reducible repeat (first | apply Kd.N_alloc | apply Kd.N_drewN | apply Kd.N_drew)); exact HO581.out) (Kd.R_base ho0) hb); have n3_ := Aside0.mk (Kd.V_elder' (by (with_reducible repeat (first | apply Kd.V_alloc | apply Kd.V_drewN | apply Kd.V_drew)); exact HL583_0.out) (Kd.R_base ho0) hb); have n4_ := Aside0.mk (Kd.R_lower (Kd.R_newM (M := fun k_ => (w.heap.size ≤ k_)) ho0 (below_size (by repeat (first | (with_reducible first | exact HB.out | apply below_alloc | apply pw_below_drewN | apply below_drew1) | exact HB.out))) (fun k_ h_ => h_)) (below_size (by repeat (first | (with_reducible first | exact HB.out | apply below_alloc | apply pw_below_drewN | apply below_drew1) | exact HB.out)))); have n5_ := Aside0.mk (Kd.C_below (by repeat (first | (with_reducible exact HR583_0.out) | (with_reducible refine Kd.C_alloc ?_ _) | (with_reducible refine Kd.C_drewN ?_ _) | (with_reducible refine Kd.C_drew ?_) | exact HR583_0.out)) hb); have n6_ := Aside0.mk (below_step (by repeat (first | (with_reducible first | exact HB.out | apply below_alloc | apply pw_below_drewN | apply below_drew1) | exact HB.out)) hb); clear HO0; clear HO578; clear HO581; clear HL583_0; clear HR583_0; clear HB; have HO0 := n0_; have HO578 := n1_; have HO581 := n2_; have HL583_0 := n3_; have HO586 := n4_; have HR583_0 := n5_; have HB := n6_; clear n0_ n1_ n2_ n3_ n4_ n5_ n6_; (try clear hb); (try clear hb2); (try clear hk); (try clear hi); (try clear ho0)))
    go_loopg [9] k (fun kq v9 w' => ∃ (x9_1 : Int), v9 = .int .i64 x9_1 ∧ Aside0 (moultlaw12_MergeSees.l0 kq a1 t579 t584 x9_1 = some r) ∧ Aside0 (kq ≤ k) ∧ Aside0 (Kd.N (Kd.slice 36 k36) 27 w' w.heap.size (fun k_ => (P0_ k_ ∨ w.heap.size ≤ k_) ∧ some k_ ≠ (v585 : Value).ownBlock) (.slice (some ad583) t579.length co14) t579) ∧ Aside0 (Kd.R k36 36 w' w.heap.size (fun k_ => (w.heap.size ≤ k_)) v585 t584) ∧ Aside0 (Kd.C k36 w' A583_0 (rd_L4 t579 0).length (rd_L4 t579 0)) ∧ Aside0 (Below w.heap.size w w'))
    case atStart => exact ⟨(0), (by first | rfl | (simp; done) | (simp [*]; done)), H', ⟨Nat.le_refl _⟩, ⟨by (with_reducible repeat (first | apply Kd.N_alloc | apply Kd.N_drewN | apply Kd.N_drew)); exact HO581.out⟩, ⟨by (with_reducible repeat (first | apply Kd.R_alloc | apply Kd.R_drewN | apply Kd.R_drew)); exact Kd.R_mono HO586.out (fun _ hk => hk.1)⟩, ⟨by repeat (first | (with_reducible exact HR583_0.out) | (with_reducible refine Kd.C_alloc ?_ _) | (with_reducible refine Kd.C_drewN ?_ _) | (with_reducible refine Kd.C_drew ?_) | exact HR583_0.out)⟩, ⟨by repeat (first | (with_reducible first | exact HB.out | apply below_alloc | apply pw_below_drewN | apply below_drew1) | exact HB.out)⟩⟩
    case round =>
     clear H'
     try clear c1
     try clear p2
     try clear c5
     try clear p5
     try clear q5
     try clear hx5
     try clear qi5
     try clear c6
     try clear c7
     try clear c7b0
     try clear c7b1
     try clear c9
     try clear c10
     try clear c14
     try clear hx583_0
     try clear p583
     try clear q583
     obtain ⟨x9_1, rfl, HA, HK1, HO_6, HO_8, HR583_0, HB⟩ := hrel
     cases gk with
     | zero => exact absurd HA.out (by simp [moultlaw12_MergeSees.l0])
     | succ k1 =>
      have H := HA.out
      clear HA
      simp only [moultlaw12_MergeSees.l0] at H
      by_cases c16 : x9_1 < (t584.length : Int)
      ·rw [if_pos c16] at H
       have c16b0 : decide (x9_1 < (t584.length : Int)) = true := decide_eq_true c16
       clear c16
       have HC17 := Aside0.mk H
       clear H
       obtain ⟨Ao18, co18, eo18⟩ := Kd.R_slice HO_8.out
       subst eo18
       go_upto_region 9 with (fail)
       go_cut [77] (fun v77 wc => ∃ (kq : Nat) (x77_16 : Bool), v77 = .bool x77_16 ∧ Aside0 (moultlaw12_MergeSees.j1 kq a1 t579 t584 x9_1 x77_16 = some r) ∧ Aside0 (kq ≤ k1) ∧ Aside0 (Kd.N (Kd.slice 36 k36) 27 wc w.heap.size (fun k_ => (P0_ k_ ∨ w.heap.size ≤ k_) ∧ some k_ ≠ ((.slice Ao18 t584.length co18) : Value).ownBlock) (.slice (some ad583) t579.length co14) t579) ∧ Aside0 (Kd.R k36 36 wc w.heap.size (fun k_ => (w.heap.size ≤ k_)) (.slice Ao18 t584.length co18) t584) ∧ Aside0 (Kd.C k36 wc A583_0 (rd_L4 t579 0).length (rd_L4 t579 0)) ∧ Aside0 (Below w.heap.size w wc))
       case first =>
        have H := HC17.out
        clear HC17
        by_cases c19 : 0 ≤ x9_1
        ·rw [if_pos c19] at H
         have c19b0 : decide (0 ≤ x9_1) = true := decide_eq_true c19
         clear c19
         (first | rw [c19b0] | (simp only [i64_w, i32_w]; rw [c19b0]) | skip)
         obtain ⟨bq20, hbq20⟩ : ∃ b_ : Bool, b_ = ((rd_T36 t584 x9_1).f2) := ⟨_, rfl⟩
         replace H : (if bq20 = true then (none) else (if ((rd_T36 t584 x9_1).f1) > a1 then (none) else (if x9_1 > 0 then (if 0 ≤ (wrap64 (x9_1 - 1)) then (if (wrap64 (x9_1 - 1)) < (t584.length : Int) then (if ((Op.bytesLess (((rd_T36 t584 (wrap64 (x9_1 - 1))).f0).toList) (((rd_T36 t584 x9_1).f0).toList)) = true) then ((moultlaw12_has.f k1 t579 ((rd_T36 t584 x9_1).f0) ((rd_T36 t584 x9_1).f1) (bq20) ((rd_T36 t584 x9_1).f3)).bind fun t592 => (moultlaw12_MergeSees.j1 k1 a1 t579 t584 x9_1 (!t592))) else (none)) else (none)) else (none)) else ((moultlaw12_has.f k1 t579 ((rd_T36 t584 x9_1).f0) ((rd_T36 t584 x9_1).f1) (bq20) ((rd_T36 t584 x9_1).f3)).bind fun t594 => (moultlaw12_MergeSees.j1 k1 a1 t579 t584 x9_1 (!t594)))))) = some r := by rw [← hbq20] at H; exact H
         have Nbq20 := Aside0.mk hbq20
         clear hbq20
         by_cases c21 : bq20 = true
         ·subst c21
          have H1 : (none) = some r := by rw [if_pos rfl] at H; exact H
          clear H
          have H := H1
          clear H1
          exact absurd H (by simp)
         ·replace c21 := Bool.eq_false_iff.mpr c21
          subst c21
          have H1 : (if ((rd_T36 t584 x9_1).f1) > a1 then (none) else (if x9_1 > 0 then (if 0 ≤ (wrap64 (x9_1 - 1)) then (if (wrap64 (x9_1 - 1)) < (t584.length : Int) then (if ((Op.bytesLess (((rd_T36 t584 (wrap64 (x9_1 - 1))).f0).toList) (((rd_T36 t584 x9_1).f0).toList)) = true) then ((moultlaw12_has.f k1 t579 ((rd_T36 t584 x9_1).f0) ((rd_T36 t584 x9_1).f1) (false) ((rd_T36 t584 x9_1).f3)).bind fun t592 => (moultlaw12_MergeSees.j1 k1 a1 t579 t584 x9_1 (!t592))) else (none)) else (none)) else (none)) else ((moultlaw12_has.f k1 t579 ((rd_T36 t584 x9_1).f0) ((rd_T36 t584 x9_1).f1) (false) ((rd_T36 t584 x9_1).f3)).bind fun t594 => (moultlaw12_MergeSees.j1 k1 a1 t579 t584 x9_1 (!t594))))) = some r := by rw [if_neg (show ¬ (false = true) by decide)] at H; exact H
          clear H
          have H := H1
          clear H1
          by_cases c22 : ((rd_T36 t584 x9_1).f1) > a1
          ·rw [if_pos c22] at H
           exact absurd H (by simp)
          ·rw [if_neg c22] at H
           have c22b0 : decide (a1 < ((rd_T36 t584 x9_1).f1)) = false := decide_eq_false c22
           clear c22
           by_cases c23 : x9_1 > 0
           ·rw [if_pos c23] at H
            have c23b0 : decide (0 < x9_1) = true := decide_eq_true c23
            clear c23
            obtain ⟨ji24, hji24⟩ : ∃ j_ : Int, (wrap64 (x9_1 - 1)) = j_ := ⟨_, rfl⟩
            replace H : (if 0 ≤ (ji24) then (if (ji24) < (t584.length : Int) then (if ((Op.bytesLess (((rd_T36 t584 (ji24)).f0).toList) (((rd_T36 t584 x9_1).f0).toList)) = true) then ((moultlaw12_has.f k1 t579 ((rd_T36 t584 x9_1).f0) ((rd_T36 t584 x9_1).f1) (false) ((rd_T36 t584 x9_1).f3)).bind fun t592 => (moultlaw12_MergeSees.j1 k1 a1 t579 t584 x9_1 (!t592))) else (none)) else (none)) else (none)) = some r := by first | (rw [hji24] at H; exact H) | (simp only [hji24] at H ⊢; exact H)
            have hji24w : (IntKind.i64.wrap (x9_1 - 1)) = ji24 := (i64_w _).trans hji24
            by_cases c25 : 0 ≤ (ji24)
            ·rw [if_pos c25] at H
             have c25b0 : decide (0 ≤ (ji24)) = true := decide_eq_true c25
             clear c25
             by_cases c26 : (ji24) < (t584.length : Int)
             ·rw [if_pos c26] at H
              have c26b0 : decide ((ji24) < (t584.length : Int)) = true := decide_eq_true c26
              clear c26
              by_cases c27 : ((Op.bytesLess (((rd_T36 t584 (ji24)).f0).toList) (((rd_T36 t584 x9_1).f0).toList)) = true)
              ·rw [if_pos c27] at H
               have c27b0 : (Op.bytesLess (((rd_T36 t584 (ji24)).f0).toList) (((rd_T36 t584 x9_1).f0).toList)) = true := c27
               clear c27
               replace H := Option.bind_eq_some_iff.mp H
               obtain ⟨t592, A280, H⟩ := H
               replace H : (moultlaw12_MergeSees.j1 k1 a1 t579 t584 x9_1 (!t592)) = some r := H
               have A28 := Aside0.mk A280
               clear A280
               have H' := Aside0.mk H
               clear H
               try go_wp2
               have n0_ := Aside0.mk (Kd.N_drew HO_6.out)
               have n1_ := Aside0.mk (Kd.R_drew HO_8.out)
               have n2_ := Aside0.mk (Kd.C_drew HR583_0.out)
               have n3_ := Aside0.mk (below_drew1 HB.out)
               clear HO_6
               clear HO_8
               clear HR583_0
               clear HB
               have HO_6 := n0_
               have HO_8 := n1_
               have HR583_0 := n2_
               have HB := n3_
               clear n0_ n1_ n2_ n3_
               have p587 : 0 ≤ (x9_1 : Int) := of_decide_eq_true (by first | (with_reducible assumption) | assumption)
               have q587 : x9_1 < (t584.length : Int) := of_decide_eq_true (by first | (with_reducible assumption) | assumption)
               obtain ⟨ad587, e587, hx587_0, hx587_1, hx587_2, hx587_3⟩ := at_T36 (Kd.R_reads' HO_8.out).2.2 x9_1 p587 q587
               (try rw [← Nbq20.out] at hx587_2)
               cases e587
               replace p587 := eq_true p587
               replace q587 := eq_true q587
               have p588 : 0 ≤ (x9_1 : Int) := of_decide_eq_true (by first | (with_reducible assumption) | assumption)
               have q588 : x9_1 < (t584.length : Int) := of_decide_eq_true (by first | (with_reducible assumption) | assumption)
               obtain ⟨ad588, e588, hx588_0, hx588_1, hx588_2, hx588_3⟩ := at_T36 (Kd.R_reads' HO_8.out).2.2 x9_1 p588 q588
               (try rw [← Nbq20.out] at hx588_2)
               obtain rfl : ad587 = ad588 := (by injection e588)
               replace p588 := eq_true p588
               replace q588 := eq_true q588
               have p589 : 0 ≤ (x9_1 : Int) := of_decide_eq_true (by first | (with_reducible assumption) | assumption)
               have q589 : x9_1 < (t584.length : Int) := of_decide_eq_true (by first | (with_reducible assumption) | assumption)
               obtain ⟨ad589, e589, hx589_0, hx589_1, hx589_2, hx589_3⟩ := at_T36 (Kd.R_reads' HO_8.out).2.2 x9_1 p589 q589
               (try rw [← Nbq20.out] at hx589_2)
               obtain rfl : ad587 = ad589 := (by injection e589)
               replace p589 := eq_true p589
               replace q589 := eq_true q589
               have p590 : 0 ≤ ((ji24) : Int) := of_decide_eq_true (by first | (with_reducible assumption) | assumption)
               have q590 : (ji24) < (t584.length : Int) := of_decide_eq_true (by first | (with_reducible assumption) | assumption)
               obtain ⟨ad590, e590, hx590_0, hx590_1, hx590_2, hx590_3⟩ := at_T36 (Kd.R_reads' HO_8.out).2.2 (ji24) p590 q590
               (try rw [← Nbq20.out] at hx590_2)
               obtain rfl : ad587 = ad590 := (by injection e590)
               replace p590 := eq_true p590
               replace q590 := eq_true q590
               have p591 : 0 ≤ (x9_1 : Int) := of_decide_eq_true (by first | (with_reducible assumption) | assumption)
               have q591 : x9_1 < (t584.length : Int) := of_decide_eq_true (by first | (with_reducible assumption) | assumption)
               obtain ⟨ad591, e591, hx591_0, hx591_1, hx591_2, hx591_3⟩ := at_T36 (Kd.R_reads' HO_8.out).2.2 x9_1 p591 q591
               (try rw [← Nbq20.out] at hx591_2)
               obtain rfl : ad587 = ad591 := (by injection e591)
               replace p591 := eq_true p591
               replace q591 := eq_true q591
               refine start_ (n := 41) (S := fun w' => w'.cell? (ad587.add ((x9_1).toNat * 4)) = some (.string ((rd_T36 t584 x9_1).f0)) ∧ w'.cell? ⟨(ad587.add ((x9_1).toNat * 4)).block, (ad587.add ((x9_1).toNat * 4)).off + 1, none⟩ = some (.int .i64 ((rd_T36 t584 x9_1).f1)) ∧ w'.cell? ⟨(ad587.add ((x9_1).toNat * 4)).block, (ad587.add ((x9_1).toNat * 4)).off + 2, none⟩ = some (.bool false) ∧ w'.cell? ⟨(ad587.add ((x9_1).toNat * 4)).block, (ad587.add ((x9_1).toNat * 4)).off + 3, none⟩ = some (.string ((rd_T36 t584 x9_1).f3)) ∧ w'.cell? (ad587.add ((x9_1).toNat * 4)) = some (.string ((rd_T36 t584 x9_1).f0)) ∧ w'.cell? ⟨(ad587.add ((x9_1).toNat * 4)).block, (ad587.add ((x9_1).toNat * 4)).off + 1, none⟩ = some (.int .i64 ((rd_T36 t584 x9_1).f1)) ∧ w'.cell? ⟨(ad587.add ((x9_1).toNat * 4)).block, (ad587.add ((x9_1).toNat * 4)).off + 2, none⟩ = some (.bool (false)) ∧ w'.cell? ⟨(ad587.add ((x9_1).toNat * 4)).block, (ad587.add ((x9_1).toNat * 4)).off + 3, none⟩ = some (.string ((rd_T36 t584 x9_1).f3)) ∧ w'.cell? (ad587.add ((x9_1).toNat * 4)) = some (.string ((rd_T36 t584 x9_1).f0)) ∧ w'.cell? ⟨(ad587.add ((x9_1).toNat * 4)).block, (ad587.add ((x9_1).toNat * 4)).off + 1, none⟩ = some (.int .i64 ((rd_T36 t584 x9_1).f1)) ∧ w'.cell? ⟨(ad587.add ((x9_1).toNat * 4)).block, (ad587.add ((x9_1).toNat * 4)).off + 2, none⟩ = some (.bool (false)) ∧ w'.cell? ⟨(ad587.add ((x9_1).toNat * 4)).block, (ad587.add ((x9_1).toNat * 4)).off + 3, none⟩ = some (.string ((rd_T36 t584 x9_1).f3)) ∧ w'.cell? (ad587.add (((ji24)).toNat * 4)) = some (.string ((rd_T36 t584 (ji24)).f0)) ∧ w'.cell? ⟨(ad587.add (((ji24)).toNat * 4)).block, (ad587.add (((ji24)).toNat * 4)).off + 1, none⟩ = some (.int .i64 ((rd_T36 t584 (ji24)).f1)) ∧ w'.cell? ⟨(ad587.add (((ji24)).toNat * 4)).block, (ad587.add (((ji24)).toNat * 4)).off + 2, none⟩ = some (.bool ((rd_T36 t584 (ji24)).f2)) ∧ w'.cell? ⟨(ad587.add (((ji24)).toNat * 4)).block, (ad587.add (((ji24)).toNat * 4)).off + 3, none⟩ = some (.string ((rd_T36 t584 (ji24)).f3)) ∧ w'.cell? (ad587.add ((x9_1).toNat * 4)) = some (.string ((rd_T36 t584 x9_1).f0)) ∧ w'.cell? ⟨(ad587.add ((x9_1).toNat * 4)).block, (ad587.add ((x9_1).toNat * 4)).off + 1, none⟩ = some (.int .i64 ((rd_T36 t584 x9_1).f1)) ∧ w'.cell? ⟨(ad587.add ((x9_1).toNat * 4)).block, (ad587.add ((x9_1).toNat * 4)).off + 2, none⟩ = some (.bool (false)) ∧ w'.cell? ⟨(ad587.add ((x9_1).toNat * 4)).block, (ad587.add ((x9_1).toNat * 4)).off + 3, none⟩ = some (.string ((rd_T36 t584 x9_1).f3))) (ds := []) #[ff, ff, ff, ff, ff, ff, ff, ff, ff, ff, ff, ff, ff, ff, ff, ff, ff, ff, ff, ff, ff, ff, ff, ff, ff, ff, ff, ff, ff, ff, ff, ff, ff, ff, ff, ff, ff, ff, ff, ff, ff] (by kernel_rfl) rfl rfl ⟨hx587_0, hx587_1, hx587_2, hx587_3, hx588_0, hx588_1, hx588_2, hx588_3, hx589_0, hx589_1, hx589_2, hx589_3, hx590_0, hx590_1, hx590_2, hx590_3, hx591_0, hx591_1, hx591_2, hx591_3⟩ (fun hHeld => ?_); refine with_tabW moultlaw12_MergeSees.tab9 moultlaw12_MergeSees.bits9 (fun HT_ HW_ => ?_)
               generalize wr.drew = w29 at HO_6 HO_8 HR583_0 HB hx587_0 hx587_1 hx587_2 hx587_3 hx588_0 hx588_1 hx588_2 hx588_3 hx589_0 hx589_1 hx589_2 hx589_3 hx590_0 hx590_1 hx590_2 hx590_3 hx591_0 hx591_1 hx591_2 hx591_3 hHeld ⊢
               refine pq_ (i := 0) (N := some 37) HT_ #[tt, ff, ff, ff, ff, ff, ff, ff, ff, ff, ff, ff, ff, ff, ff, ff, ff, ff, ff, ff, ff, ff, ff, ff, ff, ff, ff, ff, ff, ff, ff, ff, ff, ff, ff, ff, ff, ff, ff, ff, ff] ?_
               refine pq_ (i := 1) (N := some 38) HT_ #[tt, tt, ff, ff, ff, ff, ff, ff, ff, ff, ff, ff, ff, ff, ff, ff, ff, ff, ff, ff, ff, ff, ff, ff, ff, ff, ff, ff, ff, ff, ff, ff, ff, ff, ff, ff, ff, ff, ff, ff, ff] ?_
               refine pq_ (i := 2) (N := some 39) HT_ #[tt, tt, tt, ff, ff, ff, ff, ff, ff, ff, ff, ff, ff, ff, ff, ff, ff, ff, ff, ff, ff, ff, ff, ff, ff, ff, ff, ff, ff, ff, ff, ff, ff, ff, ff, ff, ff, ff, ff, ff, ff] ?_
               refine pq_ (i := 3) (N := some 40) HT_ #[tt, tt, tt, tt, ff, ff, ff, ff, ff, ff, ff, ff, ff, ff, ff, ff, ff, ff, ff, ff, ff, ff, ff, ff, ff, ff, ff, ff, ff, ff, ff, ff, ff, ff, ff, ff, ff, ff, ff, ff, ff] ?_
               refine take_ (i := 4) (N := some 41) (v := ?_) (a' := ?_) #[tt, tt, tt, tt, tt, ff, ff, ff, ff, ff, ff, ff, ff, ff, ff, ff, ff, ff, ff, ff, ff, ff, ff, ff, ff, ff, ff, ff, ff, ff, ff, ff, ff, ff, ff, ff, ff, ff, ff, ff, ff] rfl rfl (take_ofW HT_.out HW_.out (by kernel_rfl)) (fun _ _ _ h => h) (Or.inl ⟨by rfl, ?_⟩) hHeld ?_ ?_
               rotate_left
               ·rintro w' ⟨s0, s1, s2, s3, s4, s5, s6, s7, s8, s9, s10, s11, s12, s13, s14, s15, s16, s17, s18, s19⟩
                go_simp
                with_reducible rfl
               rotate_left
               ·simp only [Act.put, List.setIfInBounds_toArray, List.set_cons_zero, List.set_cons_succ, i64_w, i32_w]
                rfl
               refine pq_ (i := 5) (N := some 42) HT_ #[tt, tt, tt, tt, tt, tt, ff, ff, ff, ff, ff, ff, ff, ff, ff, ff, ff, ff, ff, ff, ff, ff, ff, ff, ff, ff, ff, ff, ff, ff, ff, ff, ff, ff, ff, ff, ff, ff, ff, ff, ff] ?_
               refine pq_ (i := 6) (N := some 43) HT_ #[tt, tt, tt, tt, tt, tt, tt, ff, ff, ff, ff, ff, ff, ff, ff, ff, ff, ff, ff, ff, ff, ff, ff, ff, ff, ff, ff, ff, ff, ff, ff, ff, ff, ff, ff, ff, ff, ff, ff, ff, ff] ?_
               refine pq_ (i := 7) (N := some 44) HT_ #[tt, tt, tt, tt, tt, tt, tt, tt, ff, ff, ff, ff, ff, ff, ff, ff, ff, ff, ff, ff, ff, ff, ff, ff, ff, ff, ff, ff, ff, ff, ff, ff, ff, ff, ff, ff, ff, ff, ff, ff, ff] ?_
               refine pq_ (i := 8) (N := some 45) HT_ #[tt, tt, tt, tt, tt, tt, tt, tt, tt, ff, ff, ff, ff, ff, ff, ff, ff, ff, ff, ff, ff, ff, ff, ff, ff, ff, ff, ff, ff, ff, ff, ff, ff, ff, ff, ff, ff, ff, ff, ff, ff] ?_
               refine pq_ (i := 9) (N := some 46) HT_ #[tt, tt, tt, tt, tt, tt, tt, tt, tt, tt, ff, ff, ff, ff, ff, ff, ff, ff, ff, ff, ff, ff, ff, ff, ff, ff, ff, ff, ff, ff, ff, ff, ff, ff, ff, ff, ff, ff, ff, ff, ff] ?_
               refine pq_ (i := 11) (N := some 48) HT_ #[tt, tt, tt, tt, tt, tt, tt, tt, tt, tt, ff, tt, ff, ff, ff, ff, ff, ff, ff, ff, ff, ff, ff, ff, ff, ff, ff, ff, ff, ff, ff, ff, ff, ff, ff, ff, ff, ff, ff, ff, ff] ?_
               refine take_ (i := 10) (N := some 47) (v := ?_) (a' := ?_) #[tt, tt, tt, tt, tt, tt, tt, tt, tt, tt, tt, tt, ff, ff, ff, ff, ff, ff, ff, ff, ff, ff, ff, ff, ff, ff, ff, ff, ff, ff, ff, ff, ff, ff, ff, ff, ff, ff, ff, ff, ff] rfl rfl (take_ofW HT_.out HW_.out (by kernel_rfl)) (fun _ _ _ h => h) (Or.inl ⟨by rfl, ?_⟩) hHeld ?_ ?_
               rotate_left
               ·rintro w' ⟨s0, s1, s2, s3, s4, s5, s6, s7, s8, s9, s10, s11, s12, s13, s14, s15, s16, s17, s18, s19⟩
                go_simp
                with_reducible rfl
               rotate_left
               ·simp only [Act.put, List.setIfInBounds_toArray, List.set_cons_zero, List.set_cons_succ, i64_w, i32_w]
                rfl
               refine pq_ (i := 12) (N := some 49) HT_ #[tt, tt, tt, tt, tt, tt, tt, tt, tt, tt, tt, tt, tt, ff, ff, ff, ff, ff, ff, ff, ff, ff, ff, ff, ff, ff, ff, ff, ff, ff, ff, ff, ff, ff, ff, ff, ff, ff, ff, ff, ff] ?_
               refine pq_ (i := 13) (N := some 50) HT_ #[tt, tt, tt, tt, tt, tt, tt, tt, tt, tt, tt, tt, tt, tt, ff, ff, ff, ff, ff, ff, ff, ff, ff, ff, ff, ff, ff, ff, ff, ff, ff, ff, ff, ff, ff, ff, ff, ff, ff, ff, ff] ?_
               refine pq_ (i := 14) (N := some 51) HT_ #[tt, tt, tt, tt, tt, tt, tt, tt, tt, tt, tt, tt, tt, tt, tt, ff, ff, ff, ff, ff, ff, ff, ff, ff, ff, ff, ff, ff, ff, ff, ff, ff, ff, ff, ff, ff, ff, ff, ff, ff, ff] ?_
               refine pq_ (i := 15) (N := some 52) HT_ #[tt, tt, tt, tt, tt, tt, tt, tt, tt, tt, tt, tt, tt, tt, tt, tt, ff, ff, ff, ff, ff, ff, ff, ff, ff, ff, ff, ff, ff, ff, ff, ff, ff, ff, ff, ff, ff, ff, ff, ff, ff] ?_
               refine pq_ (i := 16) (N := some 53) HT_ #[tt, tt, tt, tt, tt, tt, tt, tt, tt, tt, tt, tt, tt, tt, tt, tt, tt, ff, ff, ff, ff, ff, ff, ff, ff, ff, ff, ff, ff, ff, ff, ff, ff, ff, ff, ff, ff, ff, ff, ff, ff] ?_
               refine pq_ (i := 17) (N := some 54) HT_ #[tt, tt, tt, tt, tt, tt, tt, tt, tt, tt, tt, tt, tt, tt, tt, tt, tt, tt, ff, ff, ff, ff, ff, ff, ff, ff, ff, ff, ff, ff, ff, ff, ff, ff, ff, ff, ff, ff, ff, ff, ff] ?_
               refine pq_ (i := 18) (N := some 55) HT_ #[tt, tt, tt, tt, tt, tt, tt, tt, tt, tt, tt, tt, tt, tt, tt, tt, tt, tt, tt, ff, ff, ff, ff, ff, ff, ff, ff, ff, ff, ff, ff, ff, ff, ff, ff, ff, ff, ff, ff, ff, ff] ?_
               refine pq_ (i := 19) (N := some 56) HT_ #[tt, tt, tt, tt, tt, tt, tt, tt, tt, tt, tt, tt, tt, tt, tt, tt, tt, tt, tt, tt, ff, ff, ff, ff, ff, ff, ff, ff, ff, ff, ff, ff, ff, ff, ff, ff, ff, ff, ff, ff, ff] ?_
               refine pq_ (i := 20) (N := some 57) HT_ #[tt, tt, tt, tt, tt, tt, tt, tt, tt, tt, tt, tt, tt, tt, tt, tt, tt, tt, tt, tt, tt, ff, ff, ff, ff, ff, ff, ff, ff, ff, ff, ff, ff, ff, ff, ff, ff, ff, ff, ff, ff] ?_
               refine pq_ (i := 21) (N := some 58) HT_ #[tt, tt, tt, tt, tt, tt, tt, tt, tt, tt, tt, tt, tt, tt, tt, tt, tt, tt, tt, tt, tt, tt, ff, ff, ff, ff, ff, ff, ff, ff, ff, ff, ff, ff, ff, ff, ff, ff, ff, ff, ff] ?_
               refine pq_ (i := 23) (N := some 60) HT_ #[tt, tt, tt, tt, tt, tt, tt, tt, tt, tt, tt, tt, tt, tt, tt, tt, tt, tt, tt, tt, tt, tt, ff, tt, ff, ff, ff, ff, ff, ff, ff, ff, ff, ff, ff, ff, ff, ff, ff, ff, ff] ?_
               refine pq_ (i := 24) (N := some 61) HT_ #[tt, tt, tt, tt, tt, tt, tt, tt, tt, tt, tt, tt, tt, tt, tt, tt, tt, tt, tt, tt, tt, tt, ff, tt, tt, ff, ff, ff, ff, ff, ff, ff, ff, ff, ff, ff, ff, ff, ff, ff, ff] ?_
               refine pq_ (i := 25) (N := some 62) HT_ #[tt, tt, tt, tt, tt, tt, tt, tt, tt, tt, tt, tt, tt, tt, tt, tt, tt, tt, tt, tt, tt, tt, ff, tt, tt, tt, ff, ff, ff, ff, ff, ff, ff, ff, ff, ff, ff, ff, ff, ff, ff] ?_
               refine pq_ (i := 26) (N := some 63) HT_ #[tt, tt, tt, tt, tt, tt, tt, tt, tt, tt, tt, tt, tt, tt, tt, tt, tt, tt, tt, tt, tt, tt, ff, tt, tt, tt, tt, ff, ff, ff, ff, ff, ff, ff, ff, ff, ff, ff, ff, ff, ff] ?_
               refine pq_ (i := 27) (N := some 64) HT_ #[tt, tt, tt, tt, tt, tt, tt, tt, tt, tt, tt, tt, tt, tt, tt, tt, tt, tt, tt, tt, tt, tt, ff, tt, tt, tt, tt, tt, ff, ff, ff, ff, ff, ff, ff, ff, ff, ff, ff, ff, ff] ?_
               refine take_ (i := 22) (N := some 59) (v := ?_) (a' := ?_) #[tt, tt, tt, tt, tt, tt, tt, tt, tt, tt, tt, tt, tt, tt, tt, tt, tt, tt, tt, tt, tt, tt, tt, tt, tt, tt, tt, tt, ff, ff, ff, ff, ff, ff, ff, ff, ff, ff, ff, ff, ff] rfl rfl (take_ofW HT_.out HW_.out (by kernel_rfl)) (fun _ _ _ h => h) (Or.inl ⟨by rfl, ?_⟩) hHeld ?_ ?_
               rotate_left
               ·rintro w' ⟨s0, s1, s2, s3, s4, s5, s6, s7, s8, s9, s10, s11, s12, s13, s14, s15, s16, s17, s18, s19⟩
                go_simp
                with_reducible rfl
               rotate_left
               ·simp only [Act.put, List.setIfInBounds_toArray, List.set_cons_zero, List.set_cons_succ, i64_w, i32_w]
                rfl
               refine take_ (i := 28) (N := some 65) (v := ?_) (a' := ?_) #[tt, tt, tt, tt, tt, tt, tt, tt, tt, tt, tt, tt, tt, tt, tt, tt, tt, tt, tt, tt, tt, tt, tt, tt, tt, tt, tt, tt, tt, ff, ff, ff, ff, ff, ff, ff, ff, ff, ff, ff, ff] rfl rfl (take_ofW HT_.out HW_.out (by kernel_rfl)) (fun _ _ _ h => h) (Or.inl ⟨by rfl, ?_⟩) hHeld ?_ ?_
               rotate_left
               ·rintro w' ⟨s0, s1, s2, s3, s4, s5, s6, s7, s8, s9, s10, s11, s12, s13, s14, s15, s16, s17, s18, s19⟩
                go_simp
                with_reducible rfl
               rotate_left
               ·simp only [Act.put, List.setIfInBounds_toArray, List.set_cons_zero, List.set_cons_succ, i64_w, i32_w]
                rfl
               refine pq_ (i := 29) (N := some 66) HT_ #[tt, tt, tt, tt, tt, tt, tt, tt, tt, tt, tt, tt, tt, tt, tt, tt, tt, tt, tt, tt, tt, tt, tt, tt, tt, tt, tt, tt, tt, tt, ff, ff, ff, ff, ff, ff, ff, ff, ff, ff, ff] ?_
               refine pq_ (i := 30) (N := some 67) HT_ #[tt, tt, tt, tt, tt, tt, tt, tt, tt, tt, tt, tt, tt, tt, tt, tt, tt, tt, tt, tt, tt, tt, tt, tt, tt, tt, tt, tt, tt, tt, tt, ff, ff, ff, ff, ff, ff, ff, ff, ff, ff] ?_
               refine pq_ (i := 31) (N := some 68) HT_ #[tt, tt, tt, tt, tt, tt, tt, tt, tt, tt, tt, tt, tt, tt, tt, tt, tt, tt, tt, tt, tt, tt, tt, tt, tt, tt, tt, tt, tt, tt, tt, tt, ff, ff, ff, ff, ff, ff, ff, ff, ff] ?_
               refine pq_ (i := 32) (N := some 69) HT_ #[tt, tt, tt, tt, tt, tt, tt, tt, tt, tt, tt, tt, tt, tt, tt, tt, tt, tt, tt, tt, tt, tt, tt, tt, tt, tt, tt, tt, tt, tt, tt, tt, tt, ff, ff, ff, ff, ff, ff, ff, ff] ?_
               refine pq_ (i := 33) (N := some 70) HT_ #[tt, tt, tt, tt, tt, tt, tt, tt, tt, tt, tt, tt, tt, tt, tt, tt, tt, tt, tt, tt, tt, tt, tt, tt, tt, tt, tt, tt, tt, tt, tt, tt, tt, tt, ff, ff, ff, ff, ff, ff, ff] ?_
               refine pq_ (i := 34) (N := some 71) HT_ #[tt, tt, tt, tt, tt, tt, tt, tt, tt, tt, tt, tt, tt, tt, tt, tt, tt, tt, tt, tt, tt, tt, tt, tt, tt, tt, tt, tt, tt, tt, tt, tt, tt, tt, tt, ff, ff, ff, ff, ff, ff] ?_
               refine pq_ (i := 35) (N := some 72) HT_ #[tt, tt, tt, tt, tt, tt, tt, tt, tt, tt, tt, tt, tt, tt, tt, tt, tt, tt, tt, tt, tt, tt, tt, tt, tt, tt, tt, tt, tt, tt, tt, tt, tt, tt, tt, tt, ff, ff, ff, ff, ff] ?_
               refine pq_ (i := 36) (N := some 73) HT_ #[tt, tt, tt, tt, tt, tt, tt, tt, tt, tt, tt, tt, tt, tt, tt, tt, tt, tt, tt, tt, tt, tt, tt, tt, tt, tt, tt, tt, tt, tt, tt, tt, tt, tt, tt, tt, tt, ff, ff, ff, ff] ?_
               refine take_ (i := 37) (N := some 74) (v := ?_) (a' := ?_) #[tt, tt, tt, tt, tt, tt, tt, tt, tt, tt, tt, tt, tt, tt, tt, tt, tt, tt, tt, tt, tt, tt, tt, tt, tt, tt, tt, tt, tt, tt, tt, tt, tt, tt, tt, tt, tt, tt, ff, ff, ff] rfl rfl (take_ofW HT_.out HW_.out (by kernel_rfl)) (fun _ _ _ h => h) (Or.inl ⟨by rfl, ?_⟩) hHeld ?_ ?_
               rotate_left
               ·rintro w' ⟨s0, s1, s2, s3, s4, s5, s6, s7, s8, s9, s10, s11, s12, s13, s14, s15, s16, s17, s18, s19⟩
                go_simp
                with_reducible rfl
               rotate_left
               ·simp only [Act.put, List.setIfInBounds_toArray, List.set_cons_zero, List.set_cons_succ, i64_w, i32_w]
                rfl
               refine one_ (i := 38) (N := some 75) #[tt, tt, tt, tt, tt, tt, tt, tt, tt, tt, tt, tt, tt, tt, tt, tt, tt, tt, tt, tt, tt, tt, tt, tt, tt, tt, tt, tt, tt, tt, tt, tt, tt, tt, tt, tt, tt, tt, tt, ff, ff] rfl rfl (one_of HT_.out (by kernel_rfl)) (by decide) (fun K hK => ?_)
               refine goes_ Try.func21 (by kernel_rfl) rfl #[.slice (some ad583) t579.length co14, .agg #[.string ((rd_T36 t584 x9_1).f0), .int .i64 ((rd_T36 t584 x9_1).f1), .bool false, .string ((rd_T36 t584 x9_1).f3)]] (by rfl) rfl rfl (by (try simp only [List.map_toArray, List.map_cons, List.map_nil]); first | done | rfl | (simp only [List.length_drop, List.length_take]; rfl)) ?_
               with_reducible refine (moultlaw12_has.calls k1 _ _ t579 ((rd_T36 t584 x9_1).f0) ((rd_T36 t584 x9_1).f1) false ((rd_T36 t584 x9_1).f3) t592 _ ?side1 ?side2 A28.out).mono ?_
               (case side1 => repeat (first | exact (Kd.N_reads' HO_6.out).2.2 | (with_reducible refine Kd.C_alloc ?_ _) | (with_reducible refine Kd.C_drewN ?_ _) | (with_reducible refine Kd.C_drew ?_)))
               (case side2 => exact (Kd.N_reads' HO_6.out).2.1)
               rintro e w30 ⟨rfl, hb⟩
               have HS0_ := (hb.cell (World.block_lt_of_cell? _ _ (hHeld.1))).trans (hHeld.1)
               have HS1_ := (hb.cell (World.block_lt_of_cell? _ _ (hHeld.2.1))).trans (hHeld.2.1)
               have HS2_ := (hb.cell (World.block_lt_of_cell? _ _ (hHeld.2.2.1))).trans (hHeld.2.2.1)
               have HS3_ := (hb.cell (World.block_lt_of_cell? _ _ (hHeld.2.2.2.1))).trans (hHeld.2.2.2.1)
               have HS4_ := (hb.cell (World.block_lt_of_cell? _ _ (hHeld.2.2.2.2.1))).trans (hHeld.2.2.2.2.1)
               have HS5_ := (hb.cell (World.block_lt_of_cell? _ _ (hHeld.2.2.2.2.2.1))).trans (hHeld.2.2.2.2.2.1)
               have HS6_ := (hb.cell (World.block_lt_of_cell? _ _ (hHeld.2.2.2.2.2.2.1))).trans (hHeld.2.2.2.2.2.2.1)
               have HS7_ := (hb.cell (World.block_lt_of_cell? _ _ (hHeld.2.2.2.2.2.2.2.1))).trans (hHeld.2.2.2.2.2.2.2.1)
               have HS8_ := (hb.cell (World.block_lt_of_cell? _ _ (hHeld.2.2.2.2.2.2.2.2.1))).trans (hHeld.2.2.2.2.2.2.2.2.1)
               have HS9_ := (hb.cell (World.block_lt_of_cell? _ _ (hHeld.2.2.2.2.2.2.2.2.2.1))).trans (hHeld.2.2.2.2.2.2.2.2.2.1)
               have HS10_ := (hb.cell (World.block_lt_of_cell? _ _ (hHeld.2.2.2.2.2.2.2.2.2.2.1))).trans (hHeld.2.2.2.2.2.2.2.2.2.2.1)
               have HS11_ := (hb.cell (World.block_lt_of_cell? _ _ (hHeld.2.2.2.2.2.2.2.2.2.2.2.1))).trans (hHeld.2.2.2.2.2.2.2.2.2.2.2.1)
               have HS12_ := (hb.cell (World.block_lt_of_cell? _ _ (hHeld.2.2.2.2.2.2.2.2.2.2.2.2.1))).trans (hHeld.2.2.2.2.2.2.2.2.2.2.2.2.1)
               have HS13_ := (hb.cell (World.block_lt_of_cell? _ _ (hHeld.2.2.2.2.2.2.2.2.2.2.2.2.2.1))).trans (hHeld.2.2.2.2.2.2.2.2.2.2.2.2.2.1)
               have HS14_ := (hb.cell (World.block_lt_of_cell? _ _ (hHeld.2.2.2.2.2.2.2.2.2.2.2.2.2.2.1))).trans (hHeld.2.2.2.2.2.2.2.2.2.2.2.2.2.2.1)
               have HS15_ := (hb.cell (World.block_lt_of_cell? _ _ (hHeld.2.2.2.2.2.2.2.2.2.2.2.2.2.2.2.1))).trans (hHeld.2.2.2.2.2.2.2.2.2.2.2.2.2.2.2.1)
               have HS16_ := (hb.cell (World.block_lt_of_cell? _ _ (hHeld.2.2.2.2.2.2.2.2.2.2.2.2.2.2.2.2.1))).trans (hHeld.2.2.2.2.2.2.2.2.2.2.2.2.2.2.2.2.1)
               have HS17_ := (hb.cell (World.block_lt_of_cell? _ _ (hHeld.2.2.2.2.2.2.2.2.2.2.2.2.2.2.2.2.2.1))).trans (hHeld.2.2.2.2.2.2.2.2.2.2.2.2.2.2.2.2.2.1)
               have HS18_ := (hb.cell (World.block_lt_of_cell? _ _ (hHeld.2.2.2.2.2.2.2.2.2.2.2.2.2.2.2.2.2.2.1))).trans (hHeld.2.2.2.2.2.2.2.2.2.2.2.2.2.2.2.2.2.2.1)
               have HS19_ := (hb.cell (World.block_lt_of_cell? _ _ (hHeld.2.2.2.2.2.2.2.2.2.2.2.2.2.2.2.2.2.2.2))).trans (hHeld.2.2.2.2.2.2.2.2.2.2.2.2.2.2.2.2.2.2.2)
               refine ⟨_, rfl, ?_⟩
               have n0_ := Aside0.mk (Kd.N_below (by (with_reducible repeat (first | apply Kd.N_alloc | apply Kd.N_drewN | apply Kd.N_drew)); exact HO_6.out) hb)
               have n1_ := Aside0.mk (Kd.R_below (by (with_reducible repeat (first | apply Kd.R_alloc | apply Kd.R_drewN | apply Kd.R_drew)); exact HO_8.out) hb)
               have n2_ := Aside0.mk (Kd.C_below (by repeat (first | (with_reducible exact HR583_0.out) | (with_reducible refine Kd.C_alloc ?_ _) | (with_reducible refine Kd.C_drewN ?_ _) | (with_reducible refine Kd.C_drew ?_) | exact HR583_0.out)) hb)
               have n3_ := Aside0.mk (below_step (by repeat (first | (with_reducible first | exact HB.out | apply below_alloc | apply pw_below_drewN | apply below_drew1) | exact HB.out)) hb)
               clear HO_6
               clear HO_8
               clear HR583_0
               clear HB
               have HO_6 := n0_
               have HO_8 := n1_
               have HR583_0 := n2_
               have HB := n3_
               clear n0_ n1_ n2_ n3_
               (try clear hb)
               (try clear hb2)
               (try clear hk)
               (try clear hi)
               refine hK.out _ _ ⟨HS0_, HS1_, HS2_, HS3_, HS4_, HS5_, HS6_, HS7_, HS8_, HS9_, HS10_, HS11_, HS12_, HS13_, HS14_, HS15_, HS16_, HS17_, HS18_, HS19_⟩ (fun hHeld => ?_)
               clear hK K
               refine norm_ (a' := ?_) ?_ ?_
               rotate_left
               ·show Act.put _ (some 75) _ = _
                simp only [Act.put, List.setIfInBounds_toArray, List.set_cons_zero, List.set_cons_succ, i64_w, i32_w]
                rfl
               refine pq_ (i := 39) (N := some 76) HT_ #[tt, tt, tt, tt, tt, tt, tt, tt, tt, tt, tt, tt, tt, tt, tt, tt, tt, tt, tt, tt, tt, tt, tt, tt, tt, tt, tt, tt, tt, tt, tt, tt, tt, tt, tt, tt, tt, tt, tt, tt, ff] ?_
               refine pq_ (i := 40) (N := some 77) HT_ #[tt, tt, tt, tt, tt, tt, tt, tt, tt, tt, tt, tt, tt, tt, tt, tt, tt, tt, tt, tt, tt, tt, tt, tt, tt, tt, tt, tt, tt, tt, tt, tt, tt, tt, tt, tt, tt, tt, tt, tt, tt] ?_
               refine done_ (done_of HT_.out (by kernel_rfl)) ?_
               try go_wp2
               go_meet
               case rel => exact ⟨_, (!t592), (by first | rfl | (simp; done) | (simp [*]; done)), H', ⟨by have := HK1.out; first | omega | exact Nat.le_refl _⟩, ⟨by (with_reducible repeat (first | apply Kd.N_alloc | apply Kd.N_drewN | apply Kd.N_drew)); exact HO_6.out⟩, ⟨by (with_reducible repeat (first | apply Kd.R_alloc | apply Kd.R_drewN | apply Kd.R_drew)); exact HO_8.out⟩, ⟨by repeat (first | (with_reducible exact HR583_0.out) | (with_reducible refine Kd.C_alloc ?_ _) | (with_reducible refine Kd.C_drewN ?_ _) | (with_reducible refine Kd.C_drew ?_) | exact HR583_0.out)⟩, ⟨by repeat (first | (with_reducible first | exact HB.out | apply below_alloc | apply pw_below_drewN | apply below_drew1) | exact HB.out)⟩⟩
              ·rw [if_neg c27] at H
               exact absurd H (by simp)
             ·rw [if_neg c26] at H
              exact absurd H (by simp)
            ·rw [if_neg c25] at H
             exact absurd H (by simp)
           ·rw [if_neg c23] at H
            have c23b0 : decide (0 < x9_1) = false := decide_eq_false c23
            clear c23
            replace H := Option.bind_eq_some_iff.mp H
            obtain ⟨t594, A310, H⟩ := H
            replace H : (moultlaw12_MergeSees.j1 k1 a1 t579 t584 x9_1 (!t594)) = some r := H
            have A31 := Aside0.mk A310
            clear A310
            have H' := Aside0.mk H
            clear H
            try go_wp2
            have n0_ := Aside0.mk (Kd.N_drew HO_6.out)
            have n1_ := Aside0.mk (Kd.R_drew HO_8.out)
            have n2_ := Aside0.mk (Kd.C_drew HR583_0.out)
            have n3_ := Aside0.mk (below_drew1 HB.out)
            clear HO_6
            clear HO_8
            clear HR583_0
            clear HB
            have HO_6 := n0_
            have HO_8 := n1_
            have HR583_0 := n2_
            have HB := n3_
            clear n0_ n1_ n2_ n3_
            have p587 : 0 ≤ (x9_1 : Int) := of_decide_eq_true (by first | (with_reducible assumption) | assumption)
            have q587 : x9_1 < (t584.length : Int) := of_decide_eq_true (by first | (with_reducible assumption) | assumption)
            obtain ⟨ad587, e587, hx587_0, hx587_1, hx587_2, hx587_3⟩ := at_T36 (Kd.R_reads' HO_8.out).2.2 x9_1 p587 q587
            (try rw [← Nbq20.out] at hx587_2)
            cases e587
            replace p587 := eq_true p587
            replace q587 := eq_true q587
            have p588 : 0 ≤ (x9_1 : Int) := of_decide_eq_true (by first | (with_reducible assumption) | assumption)
            have q588 : x9_1 < (t584.length : Int) := of_decide_eq_true (by first | (with_reducible assumption) | assumption)
            obtain ⟨ad588, e588, hx588_0, hx588_1, hx588_2, hx588_3⟩ := at_T36 (Kd.R_reads' HO_8.out).2.2 x9_1 p588 q588
            (try rw [← Nbq20.out] at hx588_2)
            obtain rfl : ad587 = ad588 := (by injection e588)
            replace p588 := eq_true p588
            replace q588 := eq_true q588
            have p593 : 0 ≤ (x9_1 : Int) := of_decide_eq_true (by first | (with_reducible assumption) | assumption)
            have q593 : x9_1 < (t584.length : Int) := of_decide_eq_true (by first | (with_reducible assumption) | assumption)
            obtain ⟨ad593, e593, hx593_0, hx593_1, hx593_2, hx593_3⟩ := at_T36 (Kd.R_reads' HO_8.out).2.2 x9_1 p593 q593
            (try rw [← Nbq20.out] at hx593_2)
            obtain rfl : ad587 = ad593 := (by injection e593)
            replace p593 := eq_true p593
            replace q593 := eq_true q593
            refine start_ (n := 41) (S := fun w' => w'.cell? (ad587.add ((x9_1).toNat * 4)) = some (.string ((rd_T36 t584 x9_1).f0)) ∧ w'.cell? ⟨(ad587.add ((x9_1).toNat * 4)).block, (ad587.add ((x9_1).toNat * 4)).off + 1, none⟩ = some (.int .i64 ((rd_T36 t584 x9_1).f1)) ∧ w'.cell? ⟨(ad587.add ((x9_1).toNat * 4)).block, (ad587.add ((x9_1).toNat * 4)).off + 2, none⟩ = some (.bool false) ∧ w'.cell? ⟨(ad587.add ((x9_1).toNat * 4)).block, (ad587.add ((x9_1).toNat * 4)).off + 3, none⟩ = some (.string ((rd_T36 t584 x9_1).f3)) ∧ w'.cell? (ad587.add ((x9_1).toNat * 4)) = some (.string ((rd_T36 t584 x9_1).f0)) ∧ w'.cell? ⟨(ad587.add ((x9_1).toNat * 4)).block, (ad587.add ((x9_1).toNat * 4)).off + 1, none⟩ = some (.int .i64 ((rd_T36 t584 x9_1).f1)) ∧ w'.cell? ⟨(ad587.add ((x9_1).toNat * 4)).block, (ad587.add ((x9_1).toNat * 4)).off + 2, none⟩ = some (.bool (false)) ∧ w'.cell? ⟨(ad587.add ((x9_1).toNat * 4)).block, (ad587.add ((x9_1).toNat * 4)).off + 3, none⟩ = some (.string ((rd_T36 t584 x9_1).f3)) ∧ w'.cell? (ad587.add ((x9_1).toNat * 4)) = some (.string ((rd_T36 t584 x9_1).f0)) ∧ w'.cell? ⟨(ad587.add ((x9_1).toNat * 4)).block, (ad587.add ((x9_1).toNat * 4)).off + 1, none⟩ = some (.int .i64 ((rd_T36 t584 x9_1).f1)) ∧ w'.cell? ⟨(ad587.add ((x9_1).toNat * 4)).block, (ad587.add ((x9_1).toNat * 4)).off + 2, none⟩ = some (.bool (false)) ∧ w'.cell? ⟨(ad587.add ((x9_1).toNat * 4)).block, (ad587.add ((x9_1).toNat * 4)).off + 3, none⟩ = some (.string ((rd_T36 t584 x9_1).f3))) (ds := []) #[ff, ff, ff, ff, ff, ff, ff, ff, ff, ff, ff, ff, ff, ff, ff, ff, ff, ff, ff, ff, ff, ff, ff, ff, ff, ff, ff, ff, ff, ff, ff, ff, ff, ff, ff, ff, ff, ff, ff, ff, ff] (by kernel_rfl) rfl rfl ⟨hx587_0, hx587_1, hx587_2, hx587_3, hx588_0, hx588_1, hx588_2, hx588_3, hx593_0, hx593_1, hx593_2, hx593_3⟩ (fun hHeld => ?_); refine with_tabW moultlaw12_MergeSees.tab9 moultlaw12_MergeSees.bits9 (fun HT_ HW_ => ?_)
            generalize wr.drew = w32 at HO_6 HO_8 HR583_0 HB hx587_0 hx587_1 hx587_2 hx587_3 hx588_0 hx588_1 hx588_2 hx588_3 hx593_0 hx593_1 hx593_2 hx593_3 hHeld ⊢
            refine pq_ (i := 0) (N := some 37) HT_ #[tt, ff, ff, ff, ff, ff, ff, ff, ff, ff, ff, ff, ff, ff, ff, ff, ff, ff, ff, ff, ff, ff, ff, ff, ff, ff, ff, ff, ff, ff, ff, ff, ff, ff, ff, ff, ff, ff, ff, ff, ff] ?_
            refine pq_ (i := 1) (N := some 38) HT_ #[tt, tt, ff, ff, ff, ff, ff, ff, ff, ff, ff, ff, ff, ff, ff, ff, ff, ff, ff, ff, ff, ff, ff, ff, ff, ff, ff, ff, ff, ff, ff, ff, ff, ff, ff, ff, ff, ff, ff, ff, ff] ?_
            refine pq_ (i := 2) (N := some 39) HT_ #[tt, tt, tt, ff, ff, ff, ff, ff, ff, ff, ff, ff, ff, ff, ff, ff, ff, ff, ff, ff, ff, ff, ff, ff, ff, ff, ff, ff, ff, ff, ff, ff, ff, ff, ff, ff, ff, ff, ff, ff, ff] ?_
            refine pq_ (i := 3) (N := some 40) HT_ #[tt, tt, tt, tt, ff, ff, ff, ff, ff, ff, ff, ff, ff, ff, ff, ff, ff, ff, ff, ff, ff, ff, ff, ff, ff, ff, ff, ff, ff, ff, ff, ff, ff, ff, ff, ff, ff, ff, ff, ff, ff] ?_
            refine take_ (i := 4) (N := some 41) (v := ?_) (a' := ?_) #[tt, tt, tt, tt, tt, ff, ff, ff, ff, ff, ff, ff, ff, ff, ff, ff, ff, ff, ff, ff, ff, ff, ff, ff, ff, ff, ff, ff, ff, ff, ff, ff, ff, ff, ff, ff, ff, ff, ff, ff, ff] rfl rfl (take_ofW HT_.out HW_.out (by kernel_rfl)) (fun _ _ _ h => h) (Or.inl ⟨by rfl, ?_⟩) hHeld ?_ ?_
            rotate_left
            ·rintro w' ⟨s0, s1, s2, s3, s4, s5, s6, s7, s8, s9, s10, s11⟩
             go_simp
             with_reducible rfl
            rotate_left
            ·simp only [Act.put, List.setIfInBounds_toArray, List.set_cons_zero, List.set_cons_succ, i64_w, i32_w]
             rfl
            refine pq_ (i := 5) (N := some 42) HT_ #[tt, tt, tt, tt, tt, tt, ff, ff, ff, ff, ff, ff, ff, ff, ff, ff, ff, ff, ff, ff, ff, ff, ff, ff, ff, ff, ff, ff, ff, ff, ff, ff, ff, ff, ff, ff, ff, ff, ff, ff, ff] ?_
            refine pq_ (i := 6) (N := some 43) HT_ #[tt, tt, tt, tt, tt, tt, tt, ff, ff, ff, ff, ff, ff, ff, ff, ff, ff, ff, ff, ff, ff, ff, ff, ff, ff, ff, ff, ff, ff, ff, ff, ff, ff, ff, ff, ff, ff, ff, ff, ff, ff] ?_
            refine pq_ (i := 7) (N := some 44) HT_ #[tt, tt, tt, tt, tt, tt, tt, tt, ff, ff, ff, ff, ff, ff, ff, ff, ff, ff, ff, ff, ff, ff, ff, ff, ff, ff, ff, ff, ff, ff, ff, ff, ff, ff, ff, ff, ff, ff, ff, ff, ff] ?_
            refine pq_ (i := 8) (N := some 45) HT_ #[tt, tt, tt, tt, tt, tt, tt, tt, tt, ff, ff, ff, ff, ff, ff, ff, ff, ff, ff, ff, ff, ff, ff, ff, ff, ff, ff, ff, ff, ff, ff, ff, ff, ff, ff, ff, ff, ff, ff, ff, ff] ?_
            refine pq_ (i := 9) (N := some 46) HT_ #[tt, tt, tt, tt, tt, tt, tt, tt, tt, tt, ff, ff, ff, ff, ff, ff, ff, ff, ff, ff, ff, ff, ff, ff, ff, ff, ff, ff, ff, ff, ff, ff, ff, ff, ff, ff, ff, ff, ff, ff, ff] ?_
            refine pq_ (i := 11) (N := some 48) HT_ #[tt, tt, tt, tt, tt, tt, tt, tt, tt, tt, ff, tt, ff, ff, ff, ff, ff, ff, ff, ff, ff, ff, ff, ff, ff, ff, ff, ff, ff, ff, ff, ff, ff, ff, ff, ff, ff, ff, ff, ff, ff] ?_
            refine take_ (i := 10) (N := some 47) (v := ?_) (a' := ?_) #[tt, tt, tt, tt, tt, tt, tt, tt, tt, tt, tt, tt, ff, ff, ff, ff, ff, ff, ff, ff, ff, ff, ff, ff, ff, ff, ff, ff, ff, ff, ff, ff, ff, ff, ff, ff, ff, ff, ff, ff, ff] rfl rfl (take_ofW HT_.out HW_.out (by kernel_rfl)) (fun _ _ _ h => h) (Or.inl ⟨by rfl, ?_⟩) hHeld ?_ ?_
            rotate_left
            ·rintro w' ⟨s0, s1, s2, s3, s4, s5, s6, s7, s8, s9, s10, s11⟩
             go_simp
             with_reducible rfl
            rotate_left
            ·simp only [Act.put, List.setIfInBounds_toArray, List.set_cons_zero, List.set_cons_succ, i64_w, i32_w]
             rfl
            refine pq_ (i := 12) (N := some 49) HT_ #[tt, tt, tt, tt, tt, tt, tt, tt, tt, tt, tt, tt, tt, ff, ff, ff, ff, ff, ff, ff, ff, ff, ff, ff, ff, ff, ff, ff, ff, ff, ff, ff, ff, ff, ff, ff, ff, ff, ff, ff, ff] ?_
            refine pq_ (i := 13) (N := some 50) HT_ #[tt, tt, tt, tt, tt, tt, tt, tt, tt, tt, tt, tt, tt, tt, ff, ff, ff, ff, ff, ff, ff, ff, ff, ff, ff, ff, ff, ff, ff, ff, ff, ff, ff, ff, ff, ff, ff, ff, ff, ff, ff] ?_
            refine pq_ (i := 14) (N := some 51) HT_ #[tt, tt, tt, tt, tt, tt, tt, tt, tt, tt, tt, tt, tt, tt, tt, ff, ff, ff, ff, ff, ff, ff, ff, ff, ff, ff, ff, ff, ff, ff, ff, ff, ff, ff, ff, ff, ff, ff, ff, ff, ff] ?_
            refine pq_ (i := 15) (N := some 52) HT_ #[tt, tt, tt, tt, tt, tt, tt, tt, tt, tt, tt, tt, tt, tt, tt, tt, ff, ff, ff, ff, ff, ff, ff, ff, ff, ff, ff, ff, ff, ff, ff, ff, ff, ff, ff, ff, ff, ff, ff, ff, ff] ?_
            refine pq_ (i := 16) (N := some 53) HT_ #[tt, tt, tt, tt, tt, tt, tt, tt, tt, tt, tt, tt, tt, tt, tt, tt, tt, ff, ff, ff, ff, ff, ff, ff, ff, ff, ff, ff, ff, ff, ff, ff, ff, ff, ff, ff, ff, ff, ff, ff, ff] ?_
            refine pq_ (i := 17) (N := some 54) HT_ #[tt, tt, tt, tt, tt, tt, tt, tt, tt, tt, tt, tt, tt, tt, tt, tt, tt, tt, ff, ff, ff, ff, ff, ff, ff, ff, ff, ff, ff, ff, ff, ff, ff, ff, ff, ff, ff, ff, ff, ff, ff] ?_
            refine pu_ (i := 18) (N := some 55) HT_ #[tt, tt, tt, tt, tt, tt, tt, tt, tt, tt, tt, tt, tt, tt, tt, tt, tt, tt, tt, ff, ff, ff, ff, ff, ff, ff, ff, ff, ff, ff, ff, ff, ff, ff, ff, ff, ff, ff, ff, ff, ff] ?_
            refine pu_ (i := 19) (N := some 56) HT_ #[tt, tt, tt, tt, tt, tt, tt, tt, tt, tt, tt, tt, tt, tt, tt, tt, tt, tt, tt, tt, ff, ff, ff, ff, ff, ff, ff, ff, ff, ff, ff, ff, ff, ff, ff, ff, ff, ff, ff, ff, ff] ?_
            refine pu_ (i := 20) (N := some 57) HT_ #[tt, tt, tt, tt, tt, tt, tt, tt, tt, tt, tt, tt, tt, tt, tt, tt, tt, tt, tt, tt, tt, ff, ff, ff, ff, ff, ff, ff, ff, ff, ff, ff, ff, ff, ff, ff, ff, ff, ff, ff, ff] ?_
            refine pu_ (i := 21) (N := some 58) HT_ #[tt, tt, tt, tt, tt, tt, tt, tt, tt, tt, tt, tt, tt, tt, tt, tt, tt, tt, tt, tt, tt, tt, ff, ff, ff, ff, ff, ff, ff, ff, ff, ff, ff, ff, ff, ff, ff, ff, ff, ff, ff] ?_
            refine pu_ (i := 22) (N := some 59) HT_ #[tt, tt, tt, tt, tt, tt, tt, tt, tt, tt, tt, tt, tt, tt, tt, tt, tt, tt, tt, tt, tt, tt, tt, ff, ff, ff, ff, ff, ff, ff, ff, ff, ff, ff, ff, ff, ff, ff, ff, ff, ff] ?_
            refine pu_ (i := 23) (N := some 60) HT_ #[tt, tt, tt, tt, tt, tt, tt, tt, tt, tt, tt, tt, tt, tt, tt, tt, tt, tt, tt, tt, tt, tt, tt, tt, ff, ff, ff, ff, ff, ff, ff, ff, ff, ff, ff, ff, ff, ff, ff, ff, ff] ?_
            refine pu_ (i := 24) (N := some 61) HT_ #[tt, tt, tt, tt, tt, tt, tt, tt, tt, tt, tt, tt, tt, tt, tt, tt, tt, tt, tt, tt, tt, tt, tt, tt, tt, ff, ff, ff, ff, ff, ff, ff, ff, ff, ff, ff, ff, ff, ff, ff, ff] ?_
            refine pu_ (i := 25) (N := some 62) HT_ #[tt, tt, tt, tt, tt, tt, tt, tt, tt, tt, tt, tt, tt, tt, tt, tt, tt, tt, tt, tt, tt, tt, tt, tt, tt, tt, ff, ff, ff, ff, ff, ff, ff, ff, ff, ff, ff, ff, ff, ff, ff] ?_
            refine pu_ (i := 26) (N := some 63) HT_ #[tt, tt, tt, tt, tt, tt, tt, tt, tt, tt, tt, tt, tt, tt, tt, tt, tt, tt, tt, tt, tt, tt, tt, tt, tt, tt, tt, ff, ff, ff, ff, ff, ff, ff, ff, ff, ff, ff, ff, ff, ff] ?_
            refine pu_ (i := 27) (N := some 64) HT_ #[tt, tt, tt, tt, tt, tt, tt, tt, tt, tt, tt, tt, tt, tt, tt, tt, tt, tt, tt, tt, tt, tt, tt, tt, tt, tt, tt, tt, ff, ff, ff, ff, ff, ff, ff, ff, ff, ff, ff, ff, ff] ?_
            refine pu_ (i := 28) (N := some 65) HT_ #[tt, tt, tt, tt, tt, tt, tt, tt, tt, tt, tt, tt, tt, tt, tt, tt, tt, tt, tt, tt, tt, tt, tt, tt, tt, tt, tt, tt, tt, ff, ff, ff, ff, ff, ff, ff, ff, ff, ff, ff, ff] ?_
            refine pu_ (i := 29) (N := some 66) HT_ #[tt, tt, tt, tt, tt, tt, tt, tt, tt, tt, tt, tt, tt, tt, tt, tt, tt, tt, tt, tt, tt, tt, tt, tt, tt, tt, tt, tt, tt, tt, ff, ff, ff, ff, ff, ff, ff, ff, ff, ff, ff] ?_
            refine pq_ (i := 30) (N := some 67) HT_ #[tt, tt, tt, tt, tt, tt, tt, tt, tt, tt, tt, tt, tt, tt, tt, tt, tt, tt, tt, tt, tt, tt, tt, tt, tt, tt, tt, tt, tt, tt, tt, ff, ff, ff, ff, ff, ff, ff, ff, ff, ff] ?_
            refine pq_ (i := 31) (N := some 68) HT_ #[tt, tt, tt, tt, tt, tt, tt, tt, tt, tt, tt, tt, tt, tt, tt, tt, tt, tt, tt, tt, tt, tt, tt, tt, tt, tt, tt, tt, tt, tt, tt, tt, ff, ff, ff, ff, ff, ff, ff, ff, ff] ?_
            refine pq_ (i := 32) (N := some 69) HT_ #[tt, tt, tt, tt, tt, tt, tt, tt, tt, tt, tt, tt, tt, tt, tt, tt, tt, tt, tt, tt, tt, tt, tt, tt, tt, tt, tt, tt, tt, tt, tt, tt, tt, ff, ff, ff, ff, ff, ff, ff, ff] ?_
            refine pq_ (i := 33) (N := some 70) HT_ #[tt, tt, tt, tt, tt, tt, tt, tt, tt, tt, tt, tt, tt, tt, tt, tt, tt, tt, tt, tt, tt, tt, tt, tt, tt, tt, tt, tt, tt, tt, tt, tt, tt, tt, ff, ff, ff, ff, ff, ff, ff] ?_
            refine pq_ (i := 34) (N := some 71) HT_ #[tt, tt, tt, tt, tt, tt, tt, tt, tt, tt, tt, tt, tt, tt, tt, tt, tt, tt, tt, tt, tt, tt, tt, tt, tt, tt, tt, tt, tt, tt, tt, tt, tt, tt, tt, ff, ff, ff, ff, ff, ff] ?_
            refine pq_ (i := 35) (N := some 72) HT_ #[tt, tt, tt, tt, tt, tt, tt, tt, tt, tt, tt, tt, tt, tt, tt, tt, tt, tt, tt, tt, tt, tt, tt, tt, tt, tt, tt, tt, tt, tt, tt, tt, tt, tt, tt, tt, ff, ff, ff, ff, ff] ?_
            refine pq_ (i := 36) (N := some 73) HT_ #[tt, tt, tt, tt, tt, tt, tt, tt, tt, tt, tt, tt, tt, tt, tt, tt, tt, tt, tt, tt, tt, tt, tt, tt, tt, tt, tt, tt, tt, tt, tt, tt, tt, tt, tt, tt, tt, ff, ff, ff, ff] ?_
            refine take_ (i := 37) (N := some 74) (v := ?_) (a' := ?_) #[tt, tt, tt, tt, tt, tt, tt, tt, tt, tt, tt, tt, tt, tt, tt, tt, tt, tt, tt, tt, tt, tt, tt, tt, tt, tt, tt, tt, tt, tt, tt, tt, tt, tt, tt, tt, tt, tt, ff, ff, ff] rfl rfl (take_ofW HT_.out HW_.out (by kernel_rfl)) (fun _ _ _ h => h) (Or.inl ⟨by rfl, ?_⟩) hHeld ?_ ?_
            rotate_left
            ·rintro w' ⟨s0, s1, s2, s3, s4, s5, s6, s7, s8, s9, s10, s11⟩
             go_simp
             with_reducible rfl
            rotate_left
            ·simp only [Act.put, List.setIfInBounds_toArray, List.set_cons_zero, List.set_cons_succ, i64_w, i32_w]
             rfl
            refine one_ (i := 38) (N := some 75) #[tt, tt, tt, tt, tt, tt, tt, tt, tt, tt, tt, tt, tt, tt, tt, tt, tt, tt, tt, tt, tt, tt, tt, tt, tt, tt, tt, tt, tt, tt, tt, tt, tt, tt, tt, tt, tt, tt, tt, ff, ff] rfl rfl (one_of HT_.out (by kernel_rfl)) (by decide) (fun K hK => ?_)
            refine goes_ Try.func21 (by kernel_rfl) rfl #[.slice (some ad583) t579.length co14, .agg #[.string ((rd_T36 t584 x9_1).f0), .int .i64 ((rd_T36 t584 x9_1).f1), .bool false, .string ((rd_T36 t584 x9_1).f3)]] (by rfl) rfl rfl (by (try simp only [List.map_toArray, List.map_cons, List.map_nil]); first | done | rfl | (simp only [List.length_drop, List.length_take]; rfl)) ?_
            with_reducible refine (moultlaw12_has.calls k1 _ _ t579 ((rd_T36 t584 x9_1).f0) ((rd_T36 t584 x9_1).f1) false ((rd_T36 t584 x9_1).f3) t594 _ ?side1 ?side2 A31.out).mono ?_
            (case side1 => repeat (first | exact (Kd.N_reads' HO_6.out).2.2 | (with_reducible refine Kd.C_alloc ?_ _) | (with_reducible refine Kd.C_drewN ?_ _) | (with_reducible refine Kd.C_drew ?_)))
            (case side2 => exact (Kd.N_reads' HO_6.out).2.1)
            rintro e w33 ⟨rfl, hb⟩
            have HS0_ := (hb.cell (World.block_lt_of_cell? _ _ (hHeld.1))).trans (hHeld.1)
            have HS1_ := (hb.cell (World.block_lt_of_cell? _ _ (hHeld.2.1))).trans (hHeld.2.1)
            have HS2_ := (hb.cell (World.block_lt_of_cell? _ _ (hHeld.2.2.1))).trans (hHeld.2.2.1)
            have HS3_ := (hb.cell (World.block_lt_of_cell? _ _ (hHeld.2.2.2.1))).trans (hHeld.2.2.2.1)
            have HS4_ := (hb.cell (World.block_lt_of_cell? _ _ (hHeld.2.2.2.2.1))).trans (hHeld.2.2.2.2.1)
            have HS5_ := (hb.cell (World.block_lt_of_cell? _ _ (hHeld.2.2.2.2.2.1))).trans (hHeld.2.2.2.2.2.1)
            have HS6_ := (hb.cell (World.block_lt_of_cell? _ _ (hHeld.2.2.2.2.2.2.1))).trans (hHeld.2.2.2.2.2.2.1)
            have HS7_ := (hb.cell (World.block_lt_of_cell? _ _ (hHeld.2.2.2.2.2.2.2.1))).trans (hHeld.2.2.2.2.2.2.2.1)
            have HS8_ := (hb.cell (World.block_lt_of_cell? _ _ (hHeld.2.2.2.2.2.2.2.2.1))).trans (hHeld.2.2.2.2.2.2.2.2.1)
            have HS9_ := (hb.cell (World.block_lt_of_cell? _ _ (hHeld.2.2.2.2.2.2.2.2.2.1))).trans (hHeld.2.2.2.2.2.2.2.2.2.1)
            have HS10_ := (hb.cell (World.block_lt_of_cell? _ _ (hHeld.2.2.2.2.2.2.2.2.2.2.1))).trans (hHeld.2.2.2.2.2.2.2.2.2.2.1)
            have HS11_ := (hb.cell (World.block_lt_of_cell? _ _ (hHeld.2.2.2.2.2.2.2.2.2.2.2))).trans (hHeld.2.2.2.2.2.2.2.2.2.2.2)
            refine ⟨_, rfl, ?_⟩
            have n0_ := Aside0.mk (Kd.N_below (by (with_reducible repeat (first | apply Kd.N_alloc | apply Kd.N_drewN | apply Kd.N_drew)); exact HO_6.out) hb)
            have n1_ := Aside0.mk (Kd.R_below (by (with_reducible repeat (first | apply Kd.R_alloc | apply Kd.R_drewN | apply Kd.R_drew)); exact HO_8.out) hb)
            have n2_ := Aside0.mk (Kd.C_below (by repeat (first | (with_reducible exact HR583_0.out) | (with_reducible refine Kd.C_alloc ?_ _) | (with_reducible refine Kd.C_drewN ?_ _) | (with_reducible refine Kd.C_drew ?_) | exact HR583_0.out)) hb)
            have n3_ := Aside0.mk (below_step (by repeat (first | (with_reducible first | exact HB.out | apply below_alloc | apply pw_below_drewN | apply below_drew1) | exact HB.out)) hb)
            clear HO_6
            clear HO_8
            clear HR583_0
            clear HB
            have HO_6 := n0_
            have HO_8 := n1_
            have HR583_0 := n2_
            have HB := n3_
            clear n0_ n1_ n2_ n3_
            (try clear hb)
            (try clear hb2)
            (try clear hk)
            (try clear hi)
            refine hK.out _ _ ⟨HS0_, HS1_, HS2_, HS3_, HS4_, HS5_, HS6_, HS7_, HS8_, HS9_, HS10_, HS11_⟩ (fun hHeld => ?_)
            clear hK K
            refine norm_ (a' := ?_) ?_ ?_
            rotate_left
            ·show Act.put _ (some 75) _ = _
             simp only [Act.put, List.setIfInBounds_toArray, List.set_cons_zero, List.set_cons_succ, i64_w, i32_w]
             rfl
            refine pq_ (i := 39) (N := some 76) HT_ #[tt, tt, tt, tt, tt, tt, tt, tt, tt, tt, tt, tt, tt, tt, tt, tt, tt, tt, tt, tt, tt, tt, tt, tt, tt, tt, tt, tt, tt, tt, tt, tt, tt, tt, tt, tt, tt, tt, tt, tt, ff] ?_
            refine pq_ (i := 40) (N := some 77) HT_ #[tt, tt, tt, tt, tt, tt, tt, tt, tt, tt, tt, tt, tt, tt, tt, tt, tt, tt, tt, tt, tt, tt, tt, tt, tt, tt, tt, tt, tt, tt, tt, tt, tt, tt, tt, tt, tt, tt, tt, tt, tt] ?_
            refine done_ (done_of HT_.out (by kernel_rfl)) ?_
            try go_wp2
            go_meet
            case rel => exact ⟨_, (!t594), (by first | rfl | (simp; done) | (simp [*]; done)), H', ⟨by have := HK1.out; first | omega | exact Nat.le_refl _⟩, ⟨by (with_reducible repeat (first | apply Kd.N_alloc | apply Kd.N_drewN | apply Kd.N_drew)); exact HO_6.out⟩, ⟨by (with_reducible repeat (first | apply Kd.R_alloc | apply Kd.R_drewN | apply Kd.R_drew)); exact HO_8.out⟩, ⟨by repeat (first | (with_reducible exact HR583_0.out) | (with_reducible refine Kd.C_alloc ?_ _) | (with_reducible refine Kd.C_drewN ?_ _) | (with_reducible refine Kd.C_drew ?_) | exact HR583_0.out)⟩, ⟨by repeat (first | (with_reducible first | exact HB.out | apply below_alloc | apply pw_below_drewN | apply below_drew1) | exact HB.out)⟩⟩
        ·rw [if_neg c19] at H
         exact absurd H (by simp)
       case rest =>
        clear HC17
        try clear c1
        try clear c2
        try clear p2
        try clear q2
        try clear p5
        try clear q5
        try clear hx5
        try clear c19
        try clear q20
        try clear c21
        try clear c23
        try clear c23b0
        try clear c25
        try clear c26
        try clear c27
        try clear hx587_0
        try clear hx587_1
        try clear hx587_2
        try clear hx587_3
        try clear hx588_0
        try clear hx588_1
        try clear hx588_2
        try clear hx588_3
        try clear hx593_0
        try clear hx593_1
        try clear hx593_2
        try clear hx593_3
        try clear p587
        try clear p588
        try clear p593
        try clear q587
        try clear q588
        try clear q593
        obtain ⟨kq, x77_16, rfl, HA, HJ16, HO_6, HO_8, HR583_0, HB⟩ := hcut
        cases kq with
        | zero => exact absurd HA.out (by simp [moultlaw12_MergeSees.j1])
        | succ kj16 =>
         have H := HA.out
         clear HA
         simp only [moultlaw12_MergeSees.j1] at H
         by_cases c34 : x77_16 = true
         ·subst c34
          have H1 : (none) = some r := by rw [if_pos rfl] at H; exact H
          clear H
          have H := H1
          clear H1
          exact absurd H (by simp)
         ·replace c34 := Bool.eq_false_iff.mpr c34
          subst c34
          have H1 : (moultlaw12_MergeSees.l1 kj16 a1 t579 t584 x9_1 0) = some r := by rw [if_neg (show ¬ (false = true) by decide)] at H; exact H
          clear H
          have H := H1
          clear H1
          have H' := Aside0.mk H
          clear H
          go_wp2
          go_loopg [10] kj16 (fun kq v10 w' => ∃ (x10_3 : Int), v10 = .int .i64 x10_3 ∧ Aside0 (moultlaw12_MergeSees.l1 kq a1 t579 t584 x9_1 x10_3 = some r) ∧ Aside0 (kq ≤ kj16) ∧ Aside0 (Kd.N (Kd.slice 36 k36) 27 w' w.heap.size (fun k_ => (P0_ k_ ∨ w.heap.size ≤ k_) ∧ some k_ ≠ ((.slice Ao18 t584.length co18) : Value).ownBlock) (.slice (some ad583) t579.length co14) t579) ∧ Aside0 (Kd.R k36 36 w' w.heap.size (fun k_ => (w.heap.size ≤ k_)) (.slice Ao18 t584.length co18) t584) ∧ Aside0 (Kd.C k36 w' A583_0 (rd_L4 t579 0).length (rd_L4 t579 0)) ∧ Aside0 (Below w.heap.size w w'))
          case atStart => exact ⟨(0), (by first | rfl | (simp; done) | (simp [*]; done)), H', ⟨Nat.le_refl _⟩, ⟨by (with_reducible repeat (first | apply Kd.N_alloc | apply Kd.N_drewN | apply Kd.N_drew)); exact HO_6.out⟩, ⟨by (with_reducible repeat (first | apply Kd.R_alloc | apply Kd.R_drewN | apply Kd.R_drew)); exact HO_8.out⟩, ⟨by repeat (first | (with_reducible exact HR583_0.out) | (with_reducible refine Kd.C_alloc ?_ _) | (with_reducible refine Kd.C_drewN ?_ _) | (with_reducible refine Kd.C_drew ?_) | exact HR583_0.out)⟩, ⟨by repeat (first | (with_reducible first | exact HB.out | apply below_alloc | apply pw_below_drewN | apply below_drew1) | exact HB.out)⟩⟩
          case round =>
           clear H'
           try clear c1
           try clear c2
           try clear p2
           try clear q2
           try clear c3
           try clear p5
           try clear q5
           try clear hx5
           try clear c19
           try clear q20
           try clear c21
           try clear c23
           try clear c23b0
           try clear c25
           try clear c26
           try clear c27
           try clear c34
           try clear hx587_0
           try clear hx587_1
           try clear hx587_2
           try clear hx587_3
           try clear hx588_0
           try clear hx588_1
           try clear hx588_2
           try clear hx588_3
           try clear hx593_0
           try clear hx593_1
           try clear hx593_2
           try clear hx593_3
           try clear p2
           try clear p5
           try clear p587
           try clear p588
           try clear p593
           try clear q2
           try clear q20
           try clear q5
           try clear q587
           try clear q588
           try clear q593
           obtain ⟨x10_3, rfl, HA, HK3, HO_6, HO_8, HR583_0, HB⟩ := hrel
           cases gk with
           | zero => exact absurd HA.out (by simp [moultlaw12_MergeSees.l1])
           | succ k3 =>
            have H := HA.out
            clear HA
            simp only [moultlaw12_MergeSees.l1] at H
            by_cases c35 : 0 < (t579.length : Int)
            ·rw [if_pos c35] at H
             have c35b0 : decide (0 < (t579.length : Int)) = true := decide_eq_true c35
             have c35b1 : decide (0 < t579.length) = true := decide_eq_true (by omega)
             clear c35
             by_cases c36 : x10_3 < ((rd_L4 t579 0).length : Int)
             ·rw [if_pos c36] at H
              have c36b0 : decide (x10_3 < ((rd_L4 t579 0).length : Int)) = true := decide_eq_true c36
              clear c36
              have HC37 := Aside0.mk H
              clear H
              have p595 : 0 ≤ (0 : Int) := (by omega)
              have q595 : 0 < (t579.length : Int) := of_decide_eq_true (by first | (with_reducible assumption) | assumption)
              obtain ⟨ad595, A595_0, c595_0, e595, hx595_0, hl595_0, hi595_0⟩ := at_L4 (Kd.N_reads' HO_6.out).2.2 0 p595 q595
              obtain rfl : ad583 = ad595 := (by injection e595)
              obtain ⟨ce595, hce595, hMe595, hcc595⟩ := Kd.N_get HO_6.out [] 0 p595 (by first | exact q595 | exact of_decide_eq_true (by first | (with_reducible assumption) | assumption) | (have e_ := (Kd.N_reads' HO_6.out).1; omega))
              obtain ⟨ua595_0, uc595_0, rfl, ul595_0, ge595_0⟩ := Kd.FK_slice_open hMe595
              have hv595_0 := hcc595 0 _ rfl
              rw [Nat.add_zero, show ((Kd.slice 36 k36)).sz = 1 from rfl, Nat.mul_one] at hv595_0
              replace hv595_0 := Option.some.inj (hv595_0.symm.trans hx595_0)
              injection hv595_0 with hva_ hvn_ hvc_
              rw [hva_] at ge595_0
              rw [hvc_] at ul595_0
              have HL595_0 := Aside0.mk (show Kd.V k36 36 _ w.heap.size _ _ (rd_L4 t579 0) from Kd.V_mk ul595_0 ge595_0)
              clear hva_ hvn_ hvc_ ge595_0 ul595_0
              clear hcc595 hce595
              have qi595 : (0 < t579.length) = True := eq_true (by omega)
              (try rw [show ((0 : Int)).toNat = 0 from rfl] at hx595_0)
              (try rw [Addr.add_zero'] at hx595_0)
              have HR595_0 := Aside0.mk hi595_0
              have HC595_0 := Aside0.mk hl595_0
              clear hi595_0 hl595_0
              replace p595 := eq_true p595
              replace q595 := eq_true q595
              go_upto_region 14 with (fail)
              go_cut [124] (fun v124 wc => ∃ (kq : Nat) (x124_36 : Bool), v124 = .bool x124_36 ∧ Aside0 (moultlaw12_MergeSees.j3 kq a1 t579 t584 x9_1 x10_3 x124_36 = some r) ∧ Aside0 (kq ≤ k3) ∧ Aside0 (Kd.N (Kd.slice 36 k36) 27 wc w.heap.size (fun k_ => (P0_ k_ ∨ w.heap.size ≤ k_) ∧ some k_ ≠ ((.slice Ao18 t584.length co18) : Value).ownBlock) (.slice (some ad583) t579.length co14) t579) ∧ Aside0 (Kd.R k36 36 wc w.heap.size (fun k_ => (w.heap.size ≤ k_)) (.slice Ao18 t584.length co18) t584) ∧ Aside0 (Kd.C k36 wc A583_0 (rd_L4 t579 0).length (rd_L4 t579 0)) ∧ Aside0 (Kd.C k36 wc A595_0 (rd_L4 t579 0).length (rd_L4 t579 0)) ∧ Aside0 (Below w.heap.size w wc))
              case first =>
               have H := HC37.out
               clear HC37
               by_cases c38 : 0 ≤ x10_3
               ·rw [if_pos c38] at H
                have c38b0 : decide (0 ≤ x10_3) = true := decide_eq_true c38
                clear c38
                (first | rw [c38b0] | (simp only [i64_w, i32_w]; rw [c38b0]) | skip)
                by_cases c39 : 0 ≤ x9_1
                ·rw [if_pos c39] at H
                 have c39b0 : decide (0 ≤ x9_1) = true := decide_eq_true c39
                 clear c39
                 by_cases c40 : x9_1 < (t584.length : Int)
                 ·rw [if_pos c40] at H
                  have c40b0 : decide (x9_1 < (t584.length : Int)) = true := decide_eq_true c40
                  clear c40
                  by_cases c41 : ((rd_T36 (rd_L4 t579 0) x10_3).f0).toList = ((rd_T36 t584 x9_1).f0).toList
                  ·rw [if_pos c41] at H
                   have c41b0 : (((rd_T36 (rd_L4 t579 0) x10_3).f0).toList == ((rd_T36 t584 x9_1).f0).toList) = true := beq_iff_eq.mpr c41
                   have c41b1 : (((rd_T36 (rd_L4 t579 0) x10_3).f0).toList != ((rd_T36 t584 x9_1).f0).toList) = false := bne_eq_false_iff_eq.mpr c41
                   clear c41
                   by_cases c42 : ((rd_T36 (rd_L4 t579 0) x10_3).f1) > ((rd_T36 t584 x9_1).f1)
                   ·rw [if_pos c42] at H
                    have c42b0 : decide (((rd_T36 t584 x9_1).f1) < ((rd_T36 (rd_L4 t579 0) x10_3).f1)) = true := decide_eq_true c42
                    clear c42
                    have H' := Aside0.mk H
                    clear H
                    try go_wp2
                    have n0_ := Aside0.mk (Kd.N_drew HO_6.out)
                    have n1_ := Aside0.mk (Kd.R_drew HO_8.out)
                    have n2_ := Aside0.mk (Kd.V_drew HL595_0.out)
                    have n3_ := Aside0.mk (Kd.C_drew HR583_0.out)
                    have n4_ := Aside0.mk (Kd.C_drew HR595_0.out)
                    have n5_ := Aside0.mk (below_drew1 HB.out)
                    clear HO_6
                    clear HO_8
                    clear HL595_0
                    clear HR583_0
                    clear HR595_0
                    clear HB
                    have HO_6 := n0_
                    have HO_8 := n1_
                    have HL595_0 := n2_
                    have HR583_0 := n3_
                    have HR595_0 := n4_
                    have HB := n5_
                    clear n0_ n1_ n2_ n3_ n4_ n5_
                    have p596 : 0 ≤ (0 : Int) := (by omega)
                    have q596 : 0 < (t579.length : Int) := of_decide_eq_true (by first | (with_reducible assumption) | assumption)
                    obtain ⟨ad596, A596_0, c596_0, e596, hx596_0, hl596_0, hi596_0⟩ := at_L4 (Kd.N_reads' HO_6.out).2.2 0 p596 q596
                    obtain rfl : ad583 = ad596 := (by injection e596)
                    obtain ⟨ce596, hce596, hMe596, hcc596⟩ := Kd.N_get HO_6.out [] 0 p596 (by first | exact q596 | exact of_decide_eq_true (by first | (with_reducible assumption) | assumption) | (have e_ := (Kd.N_reads' HO_6.out).1; omega))
                    obtain ⟨ua596_0, uc596_0, rfl, ul596_0, ge596_0⟩ := Kd.FK_slice_open hMe596
                    have hv596_0 := hcc596 0 _ rfl
                    rw [Nat.add_zero, show ((Kd.slice 36 k36)).sz = 1 from rfl, Nat.mul_one] at hv596_0
                    replace hv596_0 := Option.some.inj (hv596_0.symm.trans hx596_0)
                    injection hv596_0 with hva_ hvn_ hvc_
                    rw [hva_] at ge596_0
                    rw [hvc_] at ul596_0
                    have HL596_0 := Aside0.mk (show Kd.V k36 36 _ w.heap.size _ _ (rd_L4 t579 0) from Kd.V_mk ul596_0 ge596_0)
                    clear hva_ hvn_ hvc_ ge596_0 ul596_0
                    clear hcc596 hce596
                    have qi596 : (0 < t579.length) = True := eq_true (by omega)
                    (try rw [show ((0 : Int)).toNat = 0 from rfl] at hx596_0)
                    (try rw [Addr.add_zero'] at hx596_0)
                    have HR596_0 := Aside0.mk hi596_0
                    have HC596_0 := Aside0.mk hl596_0
                    clear hi596_0 hl596_0
                    replace p596 := eq_true p596
                    replace q596 := eq_true q596
                    have p597 : 0 ≤ (x10_3 : Int) := of_decide_eq_true (by first | (with_reducible assumption) | assumption)
                    have q597 : x10_3 < ((rd_L4 t579 0).length : Int) := of_decide_eq_true (by first | (with_reducible assumption) | assumption)
                    obtain ⟨ad597, e597, hx597_0, hx597_1, hx597_2, hx597_3⟩ := at_T36 (by repeat (first | (with_reducible exact HR596_0.out) | (with_reducible refine Kd.C_alloc ?_ _) | (with_reducible refine Kd.C_drewN ?_ _) | (with_reducible refine Kd.C_drew ?_) | exact HR596_0.out)) x10_3 p597 q597
                    cases e597
                    replace p597 := eq_true p597
                    replace q597 := eq_true q597
                    have p598 : 0 ≤ (x9_1 : Int) := of_decide_eq_true (by first | (with_reducible assumption) | assumption)
                    have q598 : x9_1 < (t584.length : Int) := of_decide_eq_true (by first | (with_reducible assumption) | assumption)
                    obtain ⟨ad598, e598, hx598_0, hx598_1, hx598_2, hx598_3⟩ := at_T36 (Kd.R_reads' HO_8.out).2.2 x9_1 p598 q598
                    cases e598
                    replace p598 := eq_true p598
                    replace q598 := eq_true q598
                    have p599 : 0 ≤ (0 : Int) := (by omega)
                    have q599 : 0 < (t579.length : Int) := of_decide_eq_true (by first | (with_reducible assumption) | assumption)
                    obtain ⟨ad599, A599_0, c599_0, e599, hx599_0, hl599_0, hi599_0⟩ := at_L4 (Kd.N_reads' HO_6.out).2.2 0 p599 q599
                    obtain rfl : ad583 = ad599 := (by injection e599)
                    obtain ⟨ce599, hce599, hMe599, hcc599⟩ := Kd.N_get HO_6.out [] 0 p599 (by first | exact q599 | exact of_decide_eq_true (by first | (with_reducible assumption) | assumption) | (have e_ := (Kd.N_reads' HO_6.out).1; omega))
                    obtain ⟨ua599_0, uc599_0, rfl, ul599_0, ge599_0⟩ := Kd.FK_slice_open hMe599
                    have hv599_0 := hcc599 0 _ rfl
                    rw [Nat.add_zero, show ((Kd.slice 36 k36)).sz = 1 from rfl, Nat.mul_one] at hv599_0
                    replace hv599_0 := Option.some.inj (hv599_0.symm.trans hx599_0)
                    injection hv599_0 with hva_ hvn_ hvc_
                    rw [hva_] at ge599_0
                    rw [hvc_] at ul599_0
                    have HL599_0 := Aside0.mk (show Kd.V k36 36 _ w.heap.size _ _ (rd_L4 t579 0) from Kd.V_mk ul599_0 ge599_0)
                    clear hva_ hvn_ hvc_ ge599_0 ul599_0
                    clear hcc599 hce599
                    have qi599 : (0 < t579.length) = True := eq_true (by omega)
                    (try rw [show ((0 : Int)).toNat = 0 from rfl] at hx599_0)
                    (try rw [Addr.add_zero'] at hx599_0)
                    have HR599_0 := Aside0.mk hi599_0
                    have HC599_0 := Aside0.mk hl599_0
                    clear hi599_0 hl599_0
                    replace p599 := eq_true p599
                    replace q599 := eq_true q599
                    have ea_ := Option.some.inj (hx596_0.symm.trans hx599_0)
                    injection ea_ with ea_ en_ ec_
                    subst ea_
                    subst ec_
                    clear en_
                    have p600 : 0 ≤ (x10_3 : Int) := of_decide_eq_true (by first | (with_reducible assumption) | assumption)
                    have q600 : x10_3 < ((rd_L4 t579 0).length : Int) := of_decide_eq_true (by first | (with_reducible assumption) | assumption)
                    obtain ⟨ad600, e600, hx600_0, hx600_1, hx600_2, hx600_3⟩ := at_T36 (by repeat (first | (with_reducible exact HR599_0.out) | (with_reducible refine Kd.C_alloc ?_ _) | (with_reducible refine Kd.C_drewN ?_ _) | (with_reducible refine Kd.C_drew ?_) | exact HR599_0.out)) x10_3 p600 q600
                    cases e600
                    replace p600 := eq_true p600
                    replace q600 := eq_true q600
                    have p601 : 0 ≤ (x9_1 : Int) := of_decide_eq_true (by first | (with_reducible assumption) | assumption)
                    have q601 : x9_1 < (t584.length : Int) := of_decide_eq_true (by first | (with_reducible assumption) | assumption)
                    obtain ⟨ad601, e601, hx601_0, hx601_1, hx601_2, hx601_3⟩ := at_T36 (Kd.R_reads' HO_8.out).2.2 x9_1 p601 q601
                    obtain rfl : ad598 = ad601 := (by injection e601)
                    replace p601 := eq_true p601
                    replace q601 := eq_true q601
                    have p602 : 0 ≤ (0 : Int) := (by omega)
                    have q602 : 0 < (t579.length : Int) := of_decide_eq_true (by first | (with_reducible assumption) | assumption)
                    obtain ⟨ad602, A602_0, c602_0, e602, hx602_0, hl602_0, hi602_0⟩ := at_L4 (Kd.N_reads' HO_6.out).2.2 0 p602 q602
                    obtain rfl : ad583 = ad602 := (by injection e602)
                    obtain ⟨ce602, hce602, hMe602, hcc602⟩ := Kd.N_get HO_6.out [] 0 p602 (by first | exact q602 | exact of_decide_eq_true (by first | (with_reducible assumption) | assumption) | (have e_ := (Kd.N_reads' HO_6.out).1; omega))
                    obtain ⟨ua602_0, uc602_0, rfl, ul602_0, ge602_0⟩ := Kd.FK_slice_open hMe602
                    have hv602_0 := hcc602 0 _ rfl
                    rw [Nat.add_zero, show ((Kd.slice 36 k36)).sz = 1 from rfl, Nat.mul_one] at hv602_0
                    replace hv602_0 := Option.some.inj (hv602_0.symm.trans hx602_0)
                    injection hv602_0 with hva_ hvn_ hvc_
                    rw [hva_] at ge602_0
                    rw [hvc_] at ul602_0
                    have HL602_0 := Aside0.mk (show Kd.V k36 36 _ w.heap.size _ _ (rd_L4 t579 0) from Kd.V_mk ul602_0 ge602_0)
                    clear hva_ hvn_ hvc_ ge602_0 ul602_0
                    clear hcc602 hce602
                    have qi602 : (0 < t579.length) = True := eq_true (by omega)
                    (try rw [show ((0 : Int)).toNat = 0 from rfl] at hx602_0)
                    (try rw [Addr.add_zero'] at hx602_0)
                    have HR602_0 := Aside0.mk hi602_0
                    have HC602_0 := Aside0.mk hl602_0
                    clear hi602_0 hl602_0
                    replace p602 := eq_true p602
                    replace q602 := eq_true q602
                    have ea_ := Option.some.inj (hx596_0.symm.trans hx602_0)
                    injection ea_ with ea_ en_ ec_
                    subst ea_
                    subst ec_
                    clear en_
                    have p603 : 0 ≤ (x10_3 : Int) := of_decide_eq_true (by first | (with_reducible assumption) | assumption)
                    have q603 : x10_3 < ((rd_L4 t579 0).length : Int) := of_decide_eq_true (by first | (with_reducible assumption) | assumption)
                    obtain ⟨ad603, e603, hx603_0, hx603_1, hx603_2, hx603_3⟩ := at_T36 (by repeat (first | (with_reducible exact HR602_0.out) | (with_reducible refine Kd.C_alloc ?_ _) | (with_reducible refine Kd.C_drewN ?_ _) | (with_reducible refine Kd.C_drew ?_) | exact HR602_0.out)) x10_3 p603 q603
                    cases e603
                    replace p603 := eq_true p603
                    replace q603 := eq_true q603
                    refine start_ (n := 39) (S := fun w' => w'.cell? ad583 = some (.slice (some ad597) (rd_L4 t579 0).length c596_0) ∧ w'.cell? (ad597.add ((x10_3).toNat * 4)) = some (.string ((rd_T36 (rd_L4 t579 0) x10_3).f0)) ∧ w'.cell? ⟨(ad597.add ((x10_3).toNat * 4)).block, (ad597.add ((x10_3).toNat * 4)).off + 1, none⟩ = some (.int .i64 ((rd_T36 (rd_L4 t579 0) x10_3).f1)) ∧ w'.cell? ⟨(ad597.add ((x10_3).toNat * 4)).block, (ad597.add ((x10_3).toNat * 4)).off + 2, none⟩ = some (.bool ((rd_T36 (rd_L4 t579 0) x10_3).f2)) ∧ w'.cell? ⟨(ad597.add ((x10_3).toNat * 4)).block, (ad597.add ((x10_3).toNat * 4)).off + 3, none⟩ = some (.string ((rd_T36 (rd_L4 t579 0) x10_3).f3)) ∧ w'.cell? (ad598.add ((x9_1).toNat * 4)) = some (.string ((rd_T36 t584 x9_1).f0)) ∧ w'.cell? ⟨(ad598.add ((x9_1).toNat * 4)).block, (ad598.add ((x9_1).toNat * 4)).off + 1, none⟩ = some (.int .i64 ((rd_T36 t584 x9_1).f1)) ∧ w'.cell? ⟨(ad598.add ((x9_1).toNat * 4)).block, (ad598.add ((x9_1).toNat * 4)).off + 2, none⟩ = some (.bool ((rd_T36 t584 x9_1).f2)) ∧ w'.cell? ⟨(ad598.add ((x9_1).toNat * 4)).block, (ad598.add ((x9_1).toNat * 4)).off + 3, none⟩ = some (.string ((rd_T36 t584 x9_1).f3)) ∧ w'.cell? ad583 = some (.slice (some ad597) (rd_L4 t579 0).length c596_0) ∧ w'.cell? (ad597.add ((x10_3).toNat * 4)) = some (.string ((rd_T36 (rd_L4 t579 0) x10_3).f0)) ∧ w'.cell? ⟨(ad597.add ((x10_3).toNat * 4)).block, (ad597.add ((x10_3).toNat * 4)).off + 1, none⟩ = some (.int .i64 ((rd_T36 (rd_L4 t579 0) x10_3).f1)) ∧ w'.cell? ⟨(ad597.add ((x10_3).toNat * 4)).block, (ad597.add ((x10_3).toNat * 4)).off + 2, none⟩ = some (.bool ((rd_T36 (rd_L4 t579 0) x10_3).f2)) ∧ w'.cell? ⟨(ad597.add ((x10_3).toNat * 4)).block, (ad597.add ((x10_3).toNat * 4)).off + 3, none⟩ = some (.string ((rd_T36 (rd_L4 t579 0) x10_3).f3)) ∧ w'.cell? (ad598.add ((x9_1).toNat * 4)) = some (.string ((rd_T36 t584 x9_1).f0)) ∧ w'.cell? ⟨(ad598.add ((x9_1).toNat * 4)).block, (ad598.add ((x9_1).toNat * 4)).off + 1, none⟩ = some (.int .i64 ((rd_T36 t584 x9_1).f1)) ∧ w'.cell? ⟨(ad598.add ((x9_1).toNat * 4)).block, (ad598.add ((x9_1).toNat * 4)).off + 2, none⟩ = some (.bool ((rd_T36 t584 x9_1).f2)) ∧ w'.cell? ⟨(ad598.add ((x9_1).toNat * 4)).block, (ad598.add ((x9_1).toNat * 4)).off + 3, none⟩ = some (.string ((rd_T36 t584 x9_1).f3)) ∧ w'.cell? ad583 = some (.slice (some ad597) (rd_L4 t579 0).length c596_0) ∧ w'.cell? (ad597.add ((x10_3).toNat * 4)) = some (.string ((rd_T36 (rd_L4 t579 0) x10_3).f0)) ∧ w'.cell? ⟨(ad597.add ((x10_3).toNat * 4)).block, (ad597.add ((x10_3).toNat * 4)).off + 1, none⟩ = some (.int .i64 ((rd_T36 (rd_L4 t579 0) x10_3).f1)) ∧ w'.cell? ⟨(ad597.add ((x10_3).toNat * 4)).block, (ad597.add ((x10_3).toNat * 4)).off + 2, none⟩ = some (.bool ((rd_T36 (rd_L4 t579 0) x10_3).f2)) ∧ w'.cell? ⟨(ad597.add ((x10_3).toNat * 4)).block, (ad597.add ((x10_3).toNat * 4)).off + 3, none⟩ = some (.string ((rd_T36 (rd_L4 t579 0) x10_3).f3))) (ds := []) #[ff, ff, ff, ff, ff, ff, ff, ff, ff, ff, ff, ff, ff, ff, ff, ff, ff, ff, ff, ff, ff, ff, ff, ff, ff, ff, ff, ff, ff, ff, ff, ff, ff, ff, ff, ff, ff, ff, ff] (by kernel_rfl) rfl rfl ⟨hx596_0, hx597_0, hx597_1, hx597_2, hx597_3, hx598_0, hx598_1, hx598_2, hx598_3, hx599_0, hx600_0, hx600_1, hx600_2, hx600_3, hx601_0, hx601_1, hx601_2, hx601_3, hx602_0, hx603_0, hx603_1, hx603_2, hx603_3⟩ (fun hHeld => ?_); refine with_tabW moultlaw12_MergeSees.tab14 moultlaw12_MergeSees.bits14 (fun HT_ HW_ => ?_)
                    generalize wr.drew = w43 at HO_6 HO_8 HL595_0 HR583_0 HR595_0 HB HL596_0 HL599_0 HL602_0 HR596_0 HR599_0 HR602_0 hx596_0 hx597_0 hx597_1 hx597_2 hx597_3 hx598_0 hx598_1 hx598_2 hx598_3 hx599_0 hx600_0 hx600_1 hx600_2 hx600_3 hx601_0 hx601_1 hx601_2 hx601_3 hx602_0 hx603_0 hx603_1 hx603_2 hx603_3 hHeld ⊢
                    refine pq_ (i := 0) (N := some 86) HT_ #[tt, ff, ff, ff, ff, ff, ff, ff, ff, ff, ff, ff, ff, ff, ff, ff, ff, ff, ff, ff, ff, ff, ff, ff, ff, ff, ff, ff, ff, ff, ff, ff, ff, ff, ff, ff, ff, ff, ff] ?_
                    refine pq_ (i := 1) (N := some 87) HT_ #[tt, tt, ff, ff, ff, ff, ff, ff, ff, ff, ff, ff, ff, ff, ff, ff, ff, ff, ff, ff, ff, ff, ff, ff, ff, ff, ff, ff, ff, ff, ff, ff, ff, ff, ff, ff, ff, ff, ff] ?_
                    refine pq_ (i := 3) (N := some 89) HT_ #[tt, tt, ff, tt, ff, ff, ff, ff, ff, ff, ff, ff, ff, ff, ff, ff, ff, ff, ff, ff, ff, ff, ff, ff, ff, ff, ff, ff, ff, ff, ff, ff, ff, ff, ff, ff, ff, ff, ff] ?_
                    refine pq_ (i := 7) (N := some 93) HT_ #[tt, tt, ff, tt, ff, ff, ff, tt, ff, ff, ff, ff, ff, ff, ff, ff, ff, ff, ff, ff, ff, ff, ff, ff, ff, ff, ff, ff, ff, ff, ff, ff, ff, ff, ff, ff, ff, ff, ff] ?_
                    refine pq_ (i := 8) (N := some 94) HT_ #[tt, tt, ff, tt, ff, ff, ff, tt, tt, ff, ff, ff, ff, ff, ff, ff, ff, ff, ff, ff, ff, ff, ff, ff, ff, ff, ff, ff, ff, ff, ff, ff, ff, ff, ff, ff, ff, ff, ff] ?_
                    refine pq_ (i := 9) (N := some 95) HT_ #[tt, tt, ff, tt, ff, ff, ff, tt, tt, tt, ff, ff, ff, ff, ff, ff, ff, ff, ff, ff, ff, ff, ff, ff, ff, ff, ff, ff, ff, ff, ff, ff, ff, ff, ff, ff, ff, ff, ff] ?_
                    refine pq_ (i := 10) (N := some 96) HT_ #[tt, tt, ff, tt, ff, ff, ff, tt, tt, tt, tt, ff, ff, ff, ff, ff, ff, ff, ff, ff, ff, ff, ff, ff, ff, ff, ff, ff, ff, ff, ff, ff, ff, ff, ff, ff, ff, ff, ff] ?_
                    refine take_ (i := 2) (N := some 88) (v := ?_) (a' := ?_) #[tt, tt, tt, tt, ff, ff, ff, tt, tt, tt, tt, ff, ff, ff, ff, ff, ff, ff, ff, ff, ff, ff, ff, ff, ff, ff, ff, ff, ff, ff, ff, ff, ff, ff, ff, ff, ff, ff, ff] rfl rfl (take_ofW HT_.out HW_.out (by kernel_rfl)) (fun _ _ _ h => h) (Or.inl ⟨by rfl, ?_⟩) hHeld ?_ ?_
                    rotate_left
                    ·rintro w' ⟨s0, s1, s2, s3, s4, s5, s6, s7, s8, s9, s10, s11, s12, s13, s14, s15, s16, s17, s18, s19, s20, s21, s22⟩
                     go_simp
                     with_reducible rfl
                    rotate_left
                    ·simp only [Act.put, List.setIfInBounds_toArray, List.set_cons_zero, List.set_cons_succ, i64_w, i32_w]
                     rfl
                    refine pq_ (i := 4) (N := some 90) HT_ #[tt, tt, tt, tt, tt, ff, ff, tt, tt, tt, tt, ff, ff, ff, ff, ff, ff, ff, ff, ff, ff, ff, ff, ff, ff, ff, ff, ff, ff, ff, ff, ff, ff, ff, ff, ff, ff, ff, ff] ?_
                    refine pq_ (i := 5) (N := some 91) HT_ #[tt, tt, tt, tt, tt, tt, ff, tt, tt, tt, tt, ff, ff, ff, ff, ff, ff, ff, ff, ff, ff, ff, ff, ff, ff, ff, ff, ff, ff, ff, ff, ff, ff, ff, ff, ff, ff, ff, ff] ?_
                    refine take_ (i := 6) (N := some 92) (v := ?_) (a' := ?_) #[tt, tt, tt, tt, tt, tt, tt, tt, tt, tt, tt, ff, ff, ff, ff, ff, ff, ff, ff, ff, ff, ff, ff, ff, ff, ff, ff, ff, ff, ff, ff, ff, ff, ff, ff, ff, ff, ff, ff] rfl rfl (take_ofW HT_.out HW_.out (by kernel_rfl)) (fun _ _ _ h => h) (Or.inl ⟨by rfl, ?_⟩) hHeld ?_ ?_
                    rotate_left
                    ·rintro w' ⟨s0, s1, s2, s3, s4, s5, s6, s7, s8, s9, s10, s11, s12, s13, s14, s15, s16, s17, s18, s19, s20, s21, s22⟩
                     go_simp
                     with_reducible rfl
                    rotate_left
                    ·simp only [Act.put, List.setIfInBounds_toArray, List.set_cons_zero, List.set_cons_succ, i64_w, i32_w]
                     rfl
                    refine take_ (i := 11) (N := some 97) (v := ?_) (a' := ?_) #[tt, tt, tt, tt, tt, tt, tt, tt, tt, tt, tt, tt, ff, ff, ff, ff, ff, ff, ff, ff, ff, ff, ff, ff, ff, ff, ff, ff, ff, ff, ff, ff, ff, ff, ff, ff, ff, ff, ff] rfl rfl (take_ofW HT_.out HW_.out (by kernel_rfl)) (fun _ _ _ h => h) (Or.inl ⟨by rfl, ?_⟩) hHeld ?_ ?_
                    rotate_left
                    ·rintro w' ⟨s0, s1, s2, s3, s4, s5, s6, s7, s8, s9, s10, s11, s12, s13, s14, s15, s16, s17, s18, s19, s20, s21, s22⟩
                     go_simp
                     with_reducible rfl
                    rotate_left
                    ·simp only [Act.put, List.setIfInBounds_toArray, List.set_cons_zero, List.set_cons_succ, i64_w, i32_w]
                     rfl
                    refine pq_ (i := 12) (N := some 98) HT_ #[tt, tt, tt, tt, tt, tt, tt, tt, tt, tt, tt, tt, tt, ff, ff, ff, ff, ff, ff, ff, ff, ff, ff, ff, ff, ff, ff, ff, ff, ff, ff, ff, ff, ff, ff, ff, ff, ff, ff] ?_
                    refine pq_ (i := 13) (N := some 99) HT_ #[tt, tt, tt, tt, tt, tt, tt, tt, tt, tt, tt, tt, tt, tt, ff, ff, ff, ff, ff, ff, ff, ff, ff, ff, ff, ff, ff, ff, ff, ff, ff, ff, ff, ff, ff, ff, ff, ff, ff] ?_
                    refine pq_ (i := 14) (N := some 100) HT_ #[tt, tt, tt, tt, tt, tt, tt, tt, tt, tt, tt, tt, tt, tt, tt, ff, ff, ff, ff, ff, ff, ff, ff, ff, ff, ff, ff, ff, ff, ff, ff, ff, ff, ff, ff, ff, ff, ff, ff] ?_
                    refine pq_ (i := 15) (N := some 101) HT_ #[tt, tt, tt, tt, tt, tt, tt, tt, tt, tt, tt, tt, tt, tt, tt, tt, ff, ff, ff, ff, ff, ff, ff, ff, ff, ff, ff, ff, ff, ff, ff, ff, ff, ff, ff, ff, ff, ff, ff] ?_
                    refine pq_ (i := 17) (N := some 103) HT_ #[tt, tt, tt, tt, tt, tt, tt, tt, tt, tt, tt, tt, tt, tt, tt, tt, ff, tt, ff, ff, ff, ff, ff, ff, ff, ff, ff, ff, ff, ff, ff, ff, ff, ff, ff, ff, ff, ff, ff] ?_
                    refine pq_ (i := 21) (N := some 107) HT_ #[tt, tt, tt, tt, tt, tt, tt, tt, tt, tt, tt, tt, tt, tt, tt, tt, ff, tt, ff, ff, ff, tt, ff, ff, ff, ff, ff, ff, ff, ff, ff, ff, ff, ff, ff, ff, ff, ff, ff] ?_
                    refine pq_ (i := 22) (N := some 108) HT_ #[tt, tt, tt, tt, tt, tt, tt, tt, tt, tt, tt, tt, tt, tt, tt, tt, ff, tt, ff, ff, ff, tt, tt, ff, ff, ff, ff, ff, ff, ff, ff, ff, ff, ff, ff, ff, ff, ff, ff] ?_
                    refine pq_ (i := 23) (N := some 109) HT_ #[tt, tt, tt, tt, tt, tt, tt, tt, tt, tt, tt, tt, tt, tt, tt, tt, ff, tt, ff, ff, ff, tt, tt, tt, ff, ff, ff, ff, ff, ff, ff, ff, ff, ff, ff, ff, ff, ff, ff] ?_
                    refine pq_ (i := 24) (N := some 110) HT_ #[tt, tt, tt, tt, tt, tt, tt, tt, tt, tt, tt, tt, tt, tt, tt, tt, ff, tt, ff, ff, ff, tt, tt, tt, tt, ff, ff, ff, ff, ff, ff, ff, ff, ff, ff, ff, ff, ff, ff] ?_
                    refine take_ (i := 16) (N := some 102) (v := ?_) (a' := ?_) #[tt, tt, tt, tt, tt, tt, tt, tt, tt, tt, tt, tt, tt, tt, tt, tt, tt, tt, ff, ff, ff, tt, tt, tt, tt, ff, ff, ff, ff, ff, ff, ff, ff, ff, ff, ff, ff, ff, ff] rfl rfl (take_ofW HT_.out HW_.out (by kernel_rfl)) (fun _ _ _ h => h) (Or.inl ⟨by rfl, ?_⟩) hHeld ?_ ?_
                    rotate_left
                    ·rintro w' ⟨s0, s1, s2, s3, s4, s5, s6, s7, s8, s9, s10, s11, s12, s13, s14, s15, s16, s17, s18, s19, s20, s21, s22⟩
                     go_simp
                     with_reducible rfl
                    rotate_left
                    ·simp only [Act.put, List.setIfInBounds_toArray, List.set_cons_zero, List.set_cons_succ, i64_w, i32_w]
                     rfl
                    refine pq_ (i := 18) (N := some 104) HT_ #[tt, tt, tt, tt, tt, tt, tt, tt, tt, tt, tt, tt, tt, tt, tt, tt, tt, tt, tt, ff, ff, tt, tt, tt, tt, ff, ff, ff, ff, ff, ff, ff, ff, ff, ff, ff, ff, ff, ff] ?_
                    refine pq_ (i := 19) (N := some 105) HT_ #[tt, tt, tt, tt, tt, tt, tt, tt, tt, tt, tt, tt, tt, tt, tt, tt, tt, tt, tt, tt, ff, tt, tt, tt, tt, ff, ff, ff, ff, ff, ff, ff, ff, ff, ff, ff, ff, ff, ff] ?_
                    refine take_ (i := 20) (N := some 106) (v := ?_) (a' := ?_) #[tt, tt, tt, tt, tt, tt, tt, tt, tt, tt, tt, tt, tt, tt, tt, tt, tt, tt, tt, tt, tt, tt, tt, tt, tt, ff, ff, ff, ff, ff, ff, ff, ff, ff, ff, ff, ff, ff, ff] rfl rfl (take_ofW HT_.out HW_.out (by kernel_rfl)) (fun _ _ _ h => h) (Or.inl ⟨by rfl, ?_⟩) hHeld ?_ ?_
                    rotate_left
                    ·rintro w' ⟨s0, s1, s2, s3, s4, s5, s6, s7, s8, s9, s10, s11, s12, s13, s14, s15, s16, s17, s18, s19, s20, s21, s22⟩
                     go_simp
                     with_reducible rfl
                    rotate_left
                    ·simp only [Act.put, List.setIfInBounds_toArray, List.set_cons_zero, List.set_cons_succ, i64_w, i32_w]
                     rfl
                    refine take_ (i := 25) (N := some 111) (v := ?_) (a' := ?_) #[tt, tt, tt, tt, tt, tt, tt, tt, tt, tt, tt, tt, tt, tt, tt, tt, tt, tt, tt, tt, tt, tt, tt, tt, tt, tt, ff, ff, ff, ff, ff, ff, ff, ff, ff, ff, ff, ff, ff] rfl rfl (take_ofW HT_.out HW_.out (by kernel_rfl)) (fun _ _ _ h => h) (Or.inl ⟨by rfl, ?_⟩) hHeld ?_ ?_
                    rotate_left
                    ·rintro w' ⟨s0, s1, s2, s3, s4, s5, s6, s7, s8, s9, s10, s11, s12, s13, s14, s15, s16, s17, s18, s19, s20, s21, s22⟩
                     go_simp
                     with_reducible rfl
                    rotate_left
                    ·simp only [Act.put, List.setIfInBounds_toArray, List.set_cons_zero, List.set_cons_succ, i64_w, i32_w]
                     rfl
                    refine pq_ (i := 26) (N := some 112) HT_ #[tt, tt, tt, tt, tt, tt, tt, tt, tt, tt, tt, tt, tt, tt, tt, tt, tt, tt, tt, tt, tt, tt, tt, tt, tt, tt, tt, ff, ff, ff, ff, ff, ff, ff, ff, ff, ff, ff, ff] ?_
                    refine pq_ (i := 27) (N := some 113) HT_ #[tt, tt, tt, tt, tt, tt, tt, tt, tt, tt, tt, tt, tt, tt, tt, tt, tt, tt, tt, tt, tt, tt, tt, tt, tt, tt, tt, tt, ff, ff, ff, ff, ff, ff, ff, ff, ff, ff, ff] ?_
                    refine pq_ (i := 28) (N := some 114) HT_ #[tt, tt, tt, tt, tt, tt, tt, tt, tt, tt, tt, tt, tt, tt, tt, tt, tt, tt, tt, tt, tt, tt, tt, tt, tt, tt, tt, tt, tt, ff, ff, ff, ff, ff, ff, ff, ff, ff, ff] ?_
                    refine pq_ (i := 29) (N := some 115) HT_ #[tt, tt, tt, tt, tt, tt, tt, tt, tt, tt, tt, tt, tt, tt, tt, tt, tt, tt, tt, tt, tt, tt, tt, tt, tt, tt, tt, tt, tt, tt, ff, ff, ff, ff, ff, ff, ff, ff, ff] ?_
                    refine pq_ (i := 30) (N := some 116) HT_ #[tt, tt, tt, tt, tt, tt, tt, tt, tt, tt, tt, tt, tt, tt, tt, tt, tt, tt, tt, tt, tt, tt, tt, tt, tt, tt, tt, tt, tt, tt, tt, ff, ff, ff, ff, ff, ff, ff, ff] ?_
                    refine pq_ (i := 32) (N := some 118) HT_ #[tt, tt, tt, tt, tt, tt, tt, tt, tt, tt, tt, tt, tt, tt, tt, tt, tt, tt, tt, tt, tt, tt, tt, tt, tt, tt, tt, tt, tt, tt, tt, ff, tt, ff, ff, ff, ff, ff, ff] ?_
                    refine pq_ (i := 36) (N := some 122) HT_ #[tt, tt, tt, tt, tt, tt, tt, tt, tt, tt, tt, tt, tt, tt, tt, tt, tt, tt, tt, tt, tt, tt, tt, tt, tt, tt, tt, tt, tt, tt, tt, ff, tt, ff, ff, ff, tt, ff, ff] ?_
                    refine take_ (i := 31) (N := some 117) (v := ?_) (a' := ?_) #[tt, tt, tt, tt, tt, tt, tt, tt, tt, tt, tt, tt, tt, tt, tt, tt, tt, tt, tt, tt, tt, tt, tt, tt, tt, tt, tt, tt, tt, tt, tt, tt, tt, ff, ff, ff, tt, ff, ff] rfl rfl (take_ofW HT_.out HW_.out (by kernel_rfl)) (fun _ _ _ h => h) (Or.inl ⟨by rfl, ?_⟩) hHeld ?_ ?_
                    rotate_left
                    ·rintro w' ⟨s0, s1, s2, s3, s4, s5, s6, s7, s8, s9, s10, s11, s12, s13, s14, s15, s16, s17, s18, s19, s20, s21, s22⟩
                     go_simp
                     with_reducible rfl
                    rotate_left
                    ·simp only [Act.put, List.setIfInBounds_toArray, List.set_cons_zero, List.set_cons_succ, i64_w, i32_w]
                     rfl
                    refine pq_ (i := 33) (N := some 119) HT_ #[tt, tt, tt, tt, tt, tt, tt, tt, tt, tt, tt, tt, tt, tt, tt, tt, tt, tt, tt, tt, tt, tt, tt, tt, tt, tt, tt, tt, tt, tt, tt, tt, tt, tt, ff, ff, tt, ff, ff] ?_
                    refine pq_ (i := 34) (N := some 120) HT_ #[tt, tt, tt, tt, tt, tt, tt, tt, tt, tt, tt, tt, tt, tt, tt, tt, tt, tt, tt, tt, tt, tt, tt, tt, tt, tt, tt, tt, tt, tt, tt, tt, tt, tt, tt, ff, tt, ff, ff] ?_
                    refine take_ (i := 35) (N := some 121) (v := ?_) (a' := ?_) #[tt, tt, tt, tt, tt, tt, tt, tt, tt, tt, tt, tt, tt, tt, tt, tt, tt, tt, tt, tt, tt, tt, tt, tt, tt, tt, tt, tt, tt, tt, tt, tt, tt, tt, tt, tt, tt, ff, ff] rfl rfl (take_ofW HT_.out HW_.out (by kernel_rfl)) (fun _ _ _ h => h) (Or.inl ⟨by rfl, ?_⟩) hHeld ?_ ?_
                    rotate_left
                    ·rintro w' ⟨s0, s1, s2, s3, s4, s5, s6, s7, s8, s9, s10, s11, s12, s13, s14, s15, s16, s17, s18, s19, s20, s21, s22⟩
                     go_simp
                     with_reducible rfl
                    rotate_left
                    ·simp only [Act.put, List.setIfInBounds_toArray, List.set_cons_zero, List.set_cons_succ, i64_w, i32_w]
                     rfl
                    refine pq_ (i := 37) (N := some 123) HT_ #[tt, tt, tt, tt, tt, tt, tt, tt, tt, tt, tt, tt, tt, tt, tt, tt, tt, tt, tt, tt, tt, tt, tt, tt, tt, tt, tt, tt, tt, tt, tt, tt, tt, tt, tt, tt, tt, tt, ff] ?_
                    refine pq_ (i := 38) (N := some 124) HT_ #[tt, tt, tt, tt, tt, tt, tt, tt, tt, tt, tt, tt, tt, tt, tt, tt, tt, tt, tt, tt, tt, tt, tt, tt, tt, tt, tt, tt, tt, tt, tt, tt, tt, tt, tt, tt, tt, tt, tt] ?_
                    refine done_ (done_of HT_.out (by kernel_rfl)) ?_
                    try go_wp2
                    go_meet
                    case rel => exact ⟨_, (decide (((rd_T36 (rd_L4 t579 0) x10_3).f1) ≤ a1)), (by first | rfl | (simp; done) | (simp [*]; done)), H', ⟨by have := HK1.out; have := HJ16.out; have := HK3.out; first | omega | exact Nat.le_refl _⟩, ⟨by (with_reducible repeat (first | apply Kd.N_alloc | apply Kd.N_drewN | apply Kd.N_drew)); exact HO_6.out⟩, ⟨by (with_reducible repeat (first | apply Kd.R_alloc | apply Kd.R_drewN | apply Kd.R_drew)); exact HO_8.out⟩, ⟨by repeat (first | (with_reducible exact HR583_0.out) | (with_reducible refine Kd.C_alloc ?_ _) | (with_reducible refine Kd.C_drewN ?_ _) | (with_reducible refine Kd.C_drew ?_) | exact HR583_0.out)⟩, ⟨by repeat (first | (with_reducible exact HR595_0.out) | (with_reducible refine Kd.C_alloc ?_ _) | (with_reducible refine Kd.C_drewN ?_ _) | (with_reducible refine Kd.C_drew ?_) | exact HR595_0.out)⟩, ⟨by repeat (first | (with_reducible first | exact HB.out | apply below_alloc | apply pw_below_drewN | apply below_drew1) | exact HB.out)⟩⟩
                   ·rw [if_neg c42] at H
                    have c42b0 : decide (((rd_T36 t584 x9_1).f1) < ((rd_T36 (rd_L4 t579 0) x10_3).f1)) = false := decide_eq_false c42
                    clear c42
                    have H' := Aside0.mk H
                    clear H
                    try go_wp2
                    have n0_ := Aside0.mk (Kd.N_drew HO_6.out)
                    have n1_ := Aside0.mk (Kd.R_drew HO_8.out)
                    have n2_ := Aside0.mk (Kd.V_drew HL595_0.out)
                    have n3_ := Aside0.mk (Kd.C_drew HR583_0.out)
                    have n4_ := Aside0.mk (Kd.C_drew HR595_0.out)
                    have n5_ := Aside0.mk (below_drew1 HB.out)
                    clear HO_6
                    clear HO_8
                    clear HL595_0
                    clear HR583_0
                    clear HR595_0
                    clear HB
                    have HO_6 := n0_
                    have HO_8 := n1_
                    have HL595_0 := n2_
                    have HR583_0 := n3_
                    have HR595_0 := n4_
                    have HB := n5_
                    clear n0_ n1_ n2_ n3_ n4_ n5_
                    have p596 : 0 ≤ (0 : Int) := (by omega)
                    have q596 : 0 < (t579.length : Int) := of_decide_eq_true (by first | (with_reducible assumption) | assumption)
                    obtain ⟨ad596, A596_0, c596_0, e596, hx596_0, hl596_0, hi596_0⟩ := at_L4 (Kd.N_reads' HO_6.out).2.2 0 p596 q596
                    obtain rfl : ad583 = ad596 := (by injection e596)
                    obtain ⟨ce596, hce596, hMe596, hcc596⟩ := Kd.N_get HO_6.out [] 0 p596 (by first | exact q596 | exact of_decide_eq_true (by first | (with_reducible assumption) | assumption) | (have e_ := (Kd.N_reads' HO_6.out).1; omega))
                    obtain ⟨ua596_0, uc596_0, rfl, ul596_0, ge596_0⟩ := Kd.FK_slice_open hMe596
                    have hv596_0 := hcc596 0 _ rfl
                    rw [Nat.add_zero, show ((Kd.slice 36 k36)).sz = 1 from rfl, Nat.mul_one] at hv596_0
                    replace hv596_0 := Option.some.inj (hv596_0.symm.trans hx596_0)
                    injection hv596_0 with hva_ hvn_ hvc_
                    rw [hva_] at ge596_0
                    rw [hvc_] at ul596_0
                    have HL596_0 := Aside0.mk (show Kd.V k36 36 _ w.heap.size _ _ (rd_L4 t579 0) from Kd.V_mk ul596_0 ge596_0)
                    clear hva_ hvn_ hvc_ ge596_0 ul596_0
                    clear hcc596 hce596
                    have qi596 : (0 < t579.length) = True := eq_true (by omega)
                    (try rw [show ((0 : Int)).toNat = 0 from rfl] at hx596_0)
                    (try rw [Addr.add_zero'] at hx596_0)
                    have HR596_0 := Aside0.mk hi596_0
                    have HC596_0 := Aside0.mk hl596_0
                    clear hi596_0 hl596_0
                    replace p596 := eq_true p596
                    replace q596 := eq_true q596
                    have p597 : 0 ≤ (x10_3 : Int) := of_decide_eq_true (by first | (with_reducible assumption) | assumption)
                    have q597 : x10_3 < ((rd_L4 t579 0).length : Int) := of_decide_eq_true (by first | (with_reducible assumption) | assumption)
                    obtain ⟨ad597, e597, hx597_0, hx597_1, hx597_2, hx597_3⟩ := at_T36 (by repeat (first | (with_reducible exact HR596_0.out) | (with_reducible refine Kd.C_alloc ?_ _) | (with_reducible refine Kd.C_drewN ?_ _) | (with_reducible refine Kd.C_drew ?_) | exact HR596_0.out)) x10_3 p597 q597
                    cases e597
                    replace p597 := eq_true p597
                    replace q597 := eq_true q597
                    have p598 : 0 ≤ (x9_1 : Int) := of_decide_eq_true (by first | (with_reducible assumption) | assumption)
                    have q598 : x9_1 < (t584.length : Int) := of_decide_eq_true (by first | (with_reducible assumption) | assumption)
                    obtain ⟨ad598, e598, hx598_0, hx598_1, hx598_2, hx598_3⟩ := at_T36 (Kd.R_reads' HO_8.out).2.2 x9_1 p598 q598
                    cases e598
                    replace p598 := eq_true p598
                    replace q598 := eq_true q598
                    have p599 : 0 ≤ (0 : Int) := (by omega)
                    have q599 : 0 < (t579.length : Int) := of_decide_eq_true (by first | (with_reducible assumption) | assumption)
                    obtain ⟨ad599, A599_0, c599_0, e599, hx599_0, hl599_0, hi599_0⟩ := at_L4 (Kd.N_reads' HO_6.out).2.2 0 p599 q599
                    obtain rfl : ad583 = ad599 := (by injection e599)
                    obtain ⟨ce599, hce599, hMe599, hcc599⟩ := Kd.N_get HO_6.out [] 0 p599 (by first | exact q599 | exact of_decide_eq_true (by first | (with_reducible assumption) | assumption) | (have e_ := (Kd.N_reads' HO_6.out).1; omega))
                    obtain ⟨ua599_0, uc599_0, rfl, ul599_0, ge599_0⟩ := Kd.FK_slice_open hMe599
                    have hv599_0 := hcc599 0 _ rfl
                    rw [Nat.add_zero, show ((Kd.slice 36 k36)).sz = 1 from rfl, Nat.mul_one] at hv599_0
                    replace hv599_0 := Option.some.inj (hv599_0.symm.trans hx599_0)
                    injection hv599_0 with hva_ hvn_ hvc_
                    rw [hva_] at ge599_0
                    rw [hvc_] at ul599_0
                    have HL599_0 := Aside0.mk (show Kd.V k36 36 _ w.heap.size _ _ (rd_L4 t579 0) from Kd.V_mk ul599_0 ge599_0)
                    clear hva_ hvn_ hvc_ ge599_0 ul599_0
                    clear hcc599 hce599
                    have qi599 : (0 < t579.length) = True := eq_true (by omega)
                    (try rw [show ((0 : Int)).toNat = 0 from rfl] at hx599_0)
                    (try rw [Addr.add_zero'] at hx599_0)
                    have HR599_0 := Aside0.mk hi599_0
                    have HC599_0 := Aside0.mk hl599_0
                    clear hi599_0 hl599_0
                    replace p599 := eq_true p599
                    replace q599 := eq_true q599
                    have ea_ := Option.some.inj (hx596_0.symm.trans hx599_0)
                    injection ea_ with ea_ en_ ec_
                    subst ea_
                    subst ec_
                    clear en_
                    have p600 : 0 ≤ (x10_3 : Int) := of_decide_eq_true (by first | (with_reducible assumption) | assumption)
                    have q600 : x10_3 < ((rd_L4 t579 0).length : Int) := of_decide_eq_true (by first | (with_reducible assumption) | assumption)
                    obtain ⟨ad600, e600, hx600_0, hx600_1, hx600_2, hx600_3⟩ := at_T36 (by repeat (first | (with_reducible exact HR599_0.out) | (with_reducible refine Kd.C_alloc ?_ _) | (with_reducible refine Kd.C_drewN ?_ _) | (with_reducible refine Kd.C_drew ?_) | exact HR599_0.out)) x10_3 p600 q600
                    cases e600
                    replace p600 := eq_true p600
                    replace q600 := eq_true q600
                    have p601 : 0 ≤ (x9_1 : Int) := of_decide_eq_true (by first | (with_reducible assumption) | assumption)
                    have q601 : x9_1 < (t584.length : Int) := of_decide_eq_true (by first | (with_reducible assumption) | assumption)
                    obtain ⟨ad601, e601, hx601_0, hx601_1, hx601_2, hx601_3⟩ := at_T36 (Kd.R_reads' HO_8.out).2.2 x9_1 p601 q601
                    obtain rfl : ad598 = ad601 := (by injection e601)
                    replace p601 := eq_true p601
                    replace q601 := eq_true q601
                    refine start_ (n := 39) (S := fun w' => w'.cell? ad583 = some (.slice (some ad597) (rd_L4 t579 0).length c596_0) ∧ w'.cell? (ad597.add ((x10_3).toNat * 4)) = some (.string ((rd_T36 (rd_L4 t579 0) x10_3).f0)) ∧ w'.cell? ⟨(ad597.add ((x10_3).toNat * 4)).block, (ad597.add ((x10_3).toNat * 4)).off + 1, none⟩ = some (.int .i64 ((rd_T36 (rd_L4 t579 0) x10_3).f1)) ∧ w'.cell? ⟨(ad597.add ((x10_3).toNat * 4)).block, (ad597.add ((x10_3).toNat * 4)).off + 2, none⟩ = some (.bool ((rd_T36 (rd_L4 t579 0) x10_3).f2)) ∧ w'.cell? ⟨(ad597.add ((x10_3).toNat * 4)).block, (ad597.add ((x10_3).toNat * 4)).off + 3, none⟩ = some (.string ((rd_T36 (rd_L4 t579 0) x10_3).f3)) ∧ w'.cell? (ad598.add ((x9_1).toNat * 4)) = some (.string ((rd_T36 t584 x9_1).f0)) ∧ w'.cell? ⟨(ad598.add ((x9_1).toNat * 4)).block, (ad598.add ((x9_1).toNat * 4)).off + 1, none⟩ = some (.int .i64 ((rd_T36 t584 x9_1).f1)) ∧ w'.cell? ⟨(ad598.add ((x9_1).toNat * 4)).block, (ad598.add ((x9_1).toNat * 4)).off + 2, none⟩ = some (.bool ((rd_T36 t584 x9_1).f2)) ∧ w'.cell? ⟨(ad598.add ((x9_1).toNat * 4)).block, (ad598.add ((x9_1).toNat * 4)).off + 3, none⟩ = some (.string ((rd_T36 t584 x9_1).f3)) ∧ w'.cell? ad583 = some (.slice (some ad597) (rd_L4 t579 0).length c596_0) ∧ w'.cell? (ad597.add ((x10_3).toNat * 4)) = some (.string ((rd_T36 (rd_L4 t579 0) x10_3).f0)) ∧ w'.cell? ⟨(ad597.add ((x10_3).toNat * 4)).block, (ad597.add ((x10_3).toNat * 4)).off + 1, none⟩ = some (.int .i64 ((rd_T36 (rd_L4 t579 0) x10_3).f1)) ∧ w'.cell? ⟨(ad597.add ((x10_3).toNat * 4)).block, (ad597.add ((x10_3).toNat * 4)).off + 2, none⟩ = some (.bool ((rd_T36 (rd_L4 t579 0) x10_3).f2)) ∧ w'.cell? ⟨(ad597.add ((x10_3).toNat * 4)).block, (ad597.add ((x10_3).toNat * 4)).off + 3, none⟩ = some (.string ((rd_T36 (rd_L4 t579 0) x10_3).f3)) ∧ w'.cell? (ad598.add ((x9_1).toNat * 4)) = some (.string ((rd_T36 t584 x9_1).f0)) ∧ w'.cell? ⟨(ad598.add ((x9_1).toNat * 4)).block, (ad598.add ((x9_1).toNat * 4)).off + 1, none⟩ = some (.int .i64 ((rd_T36 t584 x9_1).f1)) ∧ w'.cell? ⟨(ad598.add ((x9_1).toNat * 4)).block, (ad598.add ((x9_1).toNat * 4)).off + 2, none⟩ = some (.bool ((rd_T36 t584 x9_1).f2)) ∧ w'.cell? ⟨(ad598.add ((x9_1).toNat * 4)).block, (ad598.add ((x9_1).toNat * 4)).off + 3, none⟩ = some (.string ((rd_T36 t584 x9_1).f3))) (ds := []) #[ff, ff, ff, ff, ff, ff, ff, ff, ff, ff, ff, ff, ff, ff, ff, ff, ff, ff, ff, ff, ff, ff, ff, ff, ff, ff, ff, ff, ff, ff, ff, ff, ff, ff, ff, ff, ff, ff, ff] (by kernel_rfl) rfl rfl ⟨hx596_0, hx597_0, hx597_1, hx597_2, hx597_3, hx598_0, hx598_1, hx598_2, hx598_3, hx599_0, hx600_0, hx600_1, hx600_2, hx600_3, hx601_0, hx601_1, hx601_2, hx601_3⟩ (fun hHeld => ?_); refine with_tabW moultlaw12_MergeSees.tab14 moultlaw12_MergeSees.bits14 (fun HT_ HW_ => ?_)
                    generalize wr.drew = w44 at HO_6 HO_8 HL595_0 HR583_0 HR595_0 HB HL596_0 HL599_0 HR596_0 HR599_0 hx596_0 hx597_0 hx597_1 hx597_2 hx597_3 hx598_0 hx598_1 hx598_2 hx598_3 hx599_0 hx600_0 hx600_1 hx600_2 hx600_3 hx601_0 hx601_1 hx601_2 hx601_3 hHeld ⊢
                    refine pq_ (i := 0) (N := some 86) HT_ #[tt, ff, ff, ff, ff, ff, ff, ff, ff, ff, ff, ff, ff, ff, ff, ff, ff, ff, ff, ff, ff, ff, ff, ff, ff, ff, ff, ff, ff, ff, ff, ff, ff, ff, ff, ff, ff, ff, ff] ?_
                    refine pq_ (i := 1) (N := some 87) HT_ #[tt, tt, ff, ff, ff, ff, ff, ff, ff, ff, ff, ff, ff, ff, ff, ff, ff, ff, ff, ff, ff, ff, ff, ff, ff, ff, ff, ff, ff, ff, ff, ff, ff, ff, ff, ff, ff, ff, ff] ?_
                    refine pq_ (i := 3) (N := some 89) HT_ #[tt, tt, ff, tt, ff, ff, ff, ff, ff, ff, ff, ff, ff, ff, ff, ff, ff, ff, ff, ff, ff, ff, ff, ff, ff, ff, ff, ff, ff, ff, ff, ff, ff, ff, ff, ff, ff, ff, ff] ?_
                    refine pq_ (i := 7) (N := some 93) HT_ #[tt, tt, ff, tt, ff, ff, ff, tt, ff, ff, ff, ff, ff, ff, ff, ff, ff, ff, ff, ff, ff, ff, ff, ff, ff, ff, ff, ff, ff, ff, ff, ff, ff, ff, ff, ff, ff, ff, ff] ?_
                    refine pq_ (i := 8) (N := some 94) HT_ #[tt, tt, ff, tt, ff, ff, ff, tt, tt, ff, ff, ff, ff, ff, ff, ff, ff, ff, ff, ff, ff, ff, ff, ff, ff, ff, ff, ff, ff, ff, ff, ff, ff, ff, ff, ff, ff, ff, ff] ?_
                    refine pq_ (i := 9) (N := some 95) HT_ #[tt, tt, ff, tt, ff, ff, ff, tt, tt, tt, ff, ff, ff, ff, ff, ff, ff, ff, ff, ff, ff, ff, ff, ff, ff, ff, ff, ff, ff, ff, ff, ff, ff, ff, ff, ff, ff, ff, ff] ?_
                    refine pq_ (i := 10) (N := some 96) HT_ #[tt, tt, ff, tt, ff, ff, ff, tt, tt, tt, tt, ff, ff, ff, ff, ff, ff, ff, ff, ff, ff, ff, ff, ff, ff, ff, ff, ff, ff, ff, ff, ff, ff, ff, ff, ff, ff, ff, ff] ?_
                    refine take_ (i := 2) (N := some 88) (v := ?_) (a' := ?_) #[tt, tt, tt, tt, ff, ff, ff, tt, tt, tt, tt, ff, ff, ff, ff, ff, ff, ff, ff, ff, ff, ff, ff, ff, ff, ff, ff, ff, ff, ff, ff, ff, ff, ff, ff, ff, ff, ff, ff] rfl rfl (take_ofW HT_.out HW_.out (by kernel_rfl)) (fun _ _ _ h => h) (Or.inl ⟨by rfl, ?_⟩) hHeld ?_ ?_
                    rotate_left
                    ·rintro w' ⟨s0, s1, s2, s3, s4, s5, s6, s7, s8, s9, s10, s11, s12, s13, s14, s15, s16, s17⟩
                     go_simp
                     with_reducible rfl
                    rotate_left
                    ·simp only [Act.put, List.setIfInBounds_toArray, List.set_cons_zero, List.set_cons_succ, i64_w, i32_w]
                     rfl
                    refine pq_ (i := 4) (N := some 90) HT_ #[tt, tt, tt, tt, tt, ff, ff, tt, tt, tt, tt, ff, ff, ff, ff, ff, ff, ff, ff, ff, ff, ff, ff, ff, ff, ff, ff, ff, ff, ff, ff, ff, ff, ff, ff, ff, ff, ff, ff] ?_
                    refine pq_ (i := 5) (N := some 91) HT_ #[tt, tt, tt, tt, tt, tt, ff, tt, tt, tt, tt, ff, ff, ff, ff, ff, ff, ff, ff, ff, ff, ff, ff, ff, ff, ff, ff, ff, ff, ff, ff, ff, ff, ff, ff, ff, ff, ff, ff] ?_
                    refine take_ (i := 6) (N := some 92) (v := ?_) (a' := ?_) #[tt, tt, tt, tt, tt, tt, tt, tt, tt, tt, tt, ff, ff, ff, ff, ff, ff, ff, ff, ff, ff, ff, ff, ff, ff, ff, ff, ff, ff, ff, ff, ff, ff, ff, ff, ff, ff, ff, ff] rfl rfl (take_ofW HT_.out HW_.out (by kernel_rfl)) (fun _ _ _ h => h) (Or.inl ⟨by rfl, ?_⟩) hHeld ?_ ?_
                    rotate_left
                    ·rintro w' ⟨s0, s1, s2, s3, s4, s5, s6, s7, s8, s9, s10, s11, s12, s13, s14, s15, s16, s17⟩
                     go_simp
                     with_reducible rfl
                    rotate_left
                    ·simp only [Act.put, List.setIfInBounds_toArray, List.set_cons_zero, List.set_cons_succ, i64_w, i32_w]
                     rfl
                    refine take_ (i := 11) (N := some 97) (v := ?_) (a' := ?_) #[tt, tt, tt, tt, tt, tt, tt, tt, tt, tt, tt, tt, ff, ff, ff, ff, ff, ff, ff, ff, ff, ff, ff, ff, ff, ff, ff, ff, ff, ff, ff, ff, ff, ff, ff, ff, ff, ff, ff] rfl rfl (take_ofW HT_.out HW_.out (by kernel_rfl)) (fun _ _ _ h => h) (Or.inl ⟨by rfl, ?_⟩) hHeld ?_ ?_
                    rotate_left
                    ·rintro w' ⟨s0, s1, s2, s3, s4, s5, s6, s7, s8, s9, s10, s11, s12, s13, s14, s15, s16, s17⟩
                     go_simp
                     with_reducible rfl
                    rotate_left
                    ·simp only [Act.put, List.setIfInBounds_toArray, List.set_cons_zero, List.set_cons_succ, i64_w, i32_w]
                     rfl
                    refine pq_ (i := 12) (N := some 98) HT_ #[tt, tt, tt, tt, tt, tt, tt, tt, tt, tt, tt, tt, tt, ff, ff, ff, ff, ff, ff, ff, ff, ff, ff, ff, ff, ff, ff, ff, ff, ff, ff, ff, ff, ff, ff, ff, ff, ff, ff] ?_
                    refine pq_ (i := 13) (N := some 99) HT_ #[tt, tt, tt, tt, tt, tt, tt, tt, tt, tt, tt, tt, tt, tt, ff, ff, ff, ff, ff, ff, ff, ff, ff, ff, ff, ff, ff, ff, ff, ff, ff, ff, ff, ff, ff, ff, ff, ff, ff] ?_
                    refine pq_ (i := 14) (N := some 100) HT_ #[tt, tt, tt, tt, tt, tt, tt, tt, tt, tt, tt, tt, tt, tt, tt, ff, ff, ff, ff, ff, ff, ff, ff, ff, ff, ff, ff, ff, ff, ff, ff, ff, ff, ff, ff, ff, ff, ff, ff] ?_
                    refine pq_ (i := 15) (N := some 101) HT_ #[tt, tt, tt, tt, tt, tt, tt, tt, tt, tt, tt, tt, tt, tt, tt, tt, ff, ff, ff, ff, ff, ff, ff, ff, ff, ff, ff, ff, ff, ff, ff, ff, ff, ff, ff, ff, ff, ff, ff] ?_
                    refine pq_ (i := 17) (N := some 103) HT_ #[tt, tt, tt, tt, tt, tt, tt, tt, tt, tt, tt, tt, tt, tt, tt, tt, ff, tt, ff, ff, ff, ff, ff, ff, ff, ff, ff, ff, ff, ff, ff, ff, ff, ff, ff, ff, ff, ff, ff] ?_
                    refine pq_ (i := 21) (N := some 107) HT_ #[tt, tt, tt, tt, tt, tt, tt, tt, tt, tt, tt, tt, tt, tt, tt, tt, ff, tt, ff, ff, ff, tt, ff, ff, ff, ff, ff, ff, ff, ff, ff, ff, ff, ff, ff, ff, ff, ff, ff] ?_
                    refine pq_ (i := 22) (N := some 108) HT_ #[tt, tt, tt, tt, tt, tt, tt, tt, tt, tt, tt, tt, tt, tt, tt, tt, ff, tt, ff, ff, ff, tt, tt, ff, ff, ff, ff, ff, ff, ff, ff, ff, ff, ff, ff, ff, ff, ff, ff] ?_
                    refine pq_ (i := 23) (N := some 109) HT_ #[tt, tt, tt, tt, tt, tt, tt, tt, tt, tt, tt, tt, tt, tt, tt, tt, ff, tt, ff, ff, ff, tt, tt, tt, ff, ff, ff, ff, ff, ff, ff, ff, ff, ff, ff, ff, ff, ff, ff] ?_
                    refine pq_ (i := 24) (N := some 110) HT_ #[tt, tt, tt, tt, tt, tt, tt, tt, tt, tt, tt, tt, tt, tt, tt, tt, ff, tt, ff, ff, ff, tt, tt, tt, tt, ff, ff, ff, ff, ff, ff, ff, ff, ff, ff, ff, ff, ff, ff] ?_
                    refine take_ (i := 16) (N := some 102) (v := ?_) (a' := ?_) #[tt, tt, tt, tt, tt, tt, tt, tt, tt, tt, tt, tt, tt, tt, tt, tt, tt, tt, ff, ff, ff, tt, tt, tt, tt, ff, ff, ff, ff, ff, ff, ff, ff, ff, ff, ff, ff, ff, ff] rfl rfl (take_ofW HT_.out HW_.out (by kernel_rfl)) (fun _ _ _ h => h) (Or.inl ⟨by rfl, ?_⟩) hHeld ?_ ?_
                    rotate_left
                    ·rintro w' ⟨s0, s1, s2, s3, s4, s5, s6, s7, s8, s9, s10, s11, s12, s13, s14, s15, s16, s17⟩
                     go_simp
                     with_reducible rfl
                    rotate_left
                    ·simp only [Act.put, List.setIfInBounds_toArray, List.set_cons_zero, List.set_cons_succ, i64_w, i32_w]
                     rfl
                    refine pq_ (i := 18) (N := some 104) HT_ #[tt, tt, tt, tt, tt, tt, tt, tt, tt, tt, tt, tt, tt, tt, tt, tt, tt, tt, tt, ff, ff, tt, tt, tt, tt, ff, ff, ff, ff, ff, ff, ff, ff, ff, ff, ff, ff, ff, ff] ?_
                    refine pq_ (i := 19) (N := some 105) HT_ #[tt, tt, tt, tt, tt, tt, tt, tt, tt, tt, tt, tt, tt, tt, tt, tt, tt, tt, tt, tt, ff, tt, tt, tt, tt, ff, ff, ff, ff, ff, ff, ff, ff, ff, ff, ff, ff, ff, ff] ?_
                    refine take_ (i := 20) (N := some 106) (v := ?_) (a' := ?_) #[tt, tt, tt, tt, tt, tt, tt, tt, tt, tt, tt, tt, tt, tt, tt, tt, tt, tt, tt, tt, tt, tt, tt, tt, tt, ff, ff, ff, ff, ff, ff, ff, ff, ff, ff, ff, ff, ff, ff] rfl rfl (take_ofW HT_.out HW_.out (by kernel_rfl)) (fun _ _ _ h => h) (Or.inl ⟨by rfl, ?_⟩) hHeld ?_ ?_
                    rotate_left
                    ·rintro w' ⟨s0, s1, s2, s3, s4, s5, s6, s7, s8, s9, s10, s11, s12, s13, s14, s15, s16, s17⟩
                     go_simp
                     with_reducible rfl
                    rotate_left
                    ·simp only [Act.put, List.setIfInBounds_toArray, List.set_cons_zero, List.set_cons_succ, i64_w, i32_w]
                     rfl
                    refine take_ (i := 25) (N := some 111) (v := ?_) (a' := ?_) #[tt, tt, tt, tt, tt, tt, tt, tt, tt, tt, tt, tt, tt, tt, tt, tt, tt, tt, tt, tt, tt, tt, tt, tt, tt, tt, ff, ff, ff, ff, ff, ff, ff, ff, ff, ff, ff, ff, ff] rfl rfl (take_ofW HT_.out HW_.out (by kernel_rfl)) (fun _ _ _ h => h) (Or.inl ⟨by rfl, ?_⟩) hHeld ?_ ?_
                    rotate_left
                    ·rintro w' ⟨s0, s1, s2, s3, s4, s5, s6, s7, s8, s9, s10, s11, s12, s13, s14, s15, s16, s17⟩
                     go_simp
                     with_reducible rfl
                    rotate_left
                    ·simp only [Act.put, List.setIfInBounds_toArray, List.set_cons_zero, List.set_cons_succ, i64_w, i32_w]
                     rfl
                    refine pq_ (i := 26) (N := some 112) HT_ #[tt, tt, tt, tt, tt, tt, tt, tt, tt, tt, tt, tt, tt, tt, tt, tt, tt, tt, tt, tt, tt, tt, tt, tt, tt, tt, tt, ff, ff, ff, ff, ff, ff, ff, ff, ff, ff, ff, ff] ?_
                    refine pq_ (i := 27) (N := some 113) HT_ #[tt, tt, tt, tt, tt, tt, tt, tt, tt, tt, tt, tt, tt, tt, tt, tt, tt, tt, tt, tt, tt, tt, tt, tt, tt, tt, tt, tt, ff, ff, ff, ff, ff, ff, ff, ff, ff, ff, ff] ?_
                    refine pq_ (i := 28) (N := some 114) HT_ #[tt, tt, tt, tt, tt, tt, tt, tt, tt, tt, tt, tt, tt, tt, tt, tt, tt, tt, tt, tt, tt, tt, tt, tt, tt, tt, tt, tt, tt, ff, ff, ff, ff, ff, ff, ff, ff, ff, ff] ?_
                    refine pu_ (i := 29) (N := some 115) HT_ #[tt, tt, tt, tt, tt, tt, tt, tt, tt, tt, tt, tt, tt, tt, tt, tt, tt, tt, tt, tt, tt, tt, tt, tt, tt, tt, tt, tt, tt, tt, ff, ff, ff, ff, ff, ff, ff, ff, ff] ?_
                    refine pu_ (i := 30) (N := some 116) HT_ #[tt, tt, tt, tt, tt, tt, tt, tt, tt, tt, tt, tt, tt, tt, tt, tt, tt, tt, tt, tt, tt, tt, tt, tt, tt, tt, tt, tt, tt, tt, tt, ff, ff, ff, ff, ff, ff, ff, ff] ?_
                    refine pu_ (i := 31) (N := some 117) HT_ #[tt, tt, tt, tt, tt, tt, tt, tt, tt, tt, tt, tt, tt, tt, tt, tt, tt, tt, tt, tt, tt, tt, tt, tt, tt, tt, tt, tt, tt, tt, tt, tt, ff, ff, ff, ff, ff, ff, ff] ?_
                    refine pu_ (i := 32) (N := some 118) HT_ #[tt, tt, tt, tt, tt, tt, tt, tt, tt, tt, tt, tt, tt, tt, tt, tt, tt, tt, tt, tt, tt, tt, tt, tt, tt, tt, tt, tt, tt, tt, tt, tt, tt, ff, ff, ff, ff, ff, ff] ?_
                    refine pu_ (i := 33) (N := some 119) HT_ #[tt, tt, tt, tt, tt, tt, tt, tt, tt, tt, tt, tt, tt, tt, tt, tt, tt, tt, tt, tt, tt, tt, tt, tt, tt, tt, tt, tt, tt, tt, tt, tt, tt, tt, ff, ff, ff, ff, ff] ?_
                    refine pu_ (i := 34) (N := some 120) HT_ #[tt, tt, tt, tt, tt, tt, tt, tt, tt, tt, tt, tt, tt, tt, tt, tt, tt, tt, tt, tt, tt, tt, tt, tt, tt, tt, tt, tt, tt, tt, tt, tt, tt, tt, tt, ff, ff, ff, ff] ?_
                    refine pu_ (i := 35) (N := some 121) HT_ #[tt, tt, tt, tt, tt, tt, tt, tt, tt, tt, tt, tt, tt, tt, tt, tt, tt, tt, tt, tt, tt, tt, tt, tt, tt, tt, tt, tt, tt, tt, tt, tt, tt, tt, tt, tt, ff, ff, ff] ?_
                    refine pu_ (i := 36) (N := some 122) HT_ #[tt, tt, tt, tt, tt, tt, tt, tt, tt, tt, tt, tt, tt, tt, tt, tt, tt, tt, tt, tt, tt, tt, tt, tt, tt, tt, tt, tt, tt, tt, tt, tt, tt, tt, tt, tt, tt, ff, ff] ?_
                    refine pu_ (i := 37) (N := some 123) HT_ #[tt, tt, tt, tt, tt, tt, tt, tt, tt, tt, tt, tt, tt, tt, tt, tt, tt, tt, tt, tt, tt, tt, tt, tt, tt, tt, tt, tt, tt, tt, tt, tt, tt, tt, tt, tt, tt, tt, ff] ?_
                    refine pq_ (i := 38) (N := some 124) HT_ #[tt, tt, tt, tt, tt, tt, tt, tt, tt, tt, tt, tt, tt, tt, tt, tt, tt, tt, tt, tt, tt, tt, tt, tt, tt, tt, tt, tt, tt, tt, tt, tt, tt, tt, tt, tt, tt, tt, tt] ?_
                    refine done_ (done_of HT_.out (by kernel_rfl)) ?_
                    try go_wp2
                    go_meet
                    case rel => exact ⟨_, (false), (by first | rfl | (simp; done) | (simp [*]; done)), H', ⟨by have := HK1.out; have := HJ16.out; have := HK3.out; first | omega | exact Nat.le_refl _⟩, ⟨by (with_reducible repeat (first | apply Kd.N_alloc | apply Kd.N_drewN | apply Kd.N_drew)); exact HO_6.out⟩, ⟨by (with_reducible repeat (first | apply Kd.R_alloc | apply Kd.R_drewN | apply Kd.R_drew)); exact HO_8.out⟩, ⟨by repeat (first | (with_reducible exact HR583_0.out) | (with_reducible refine Kd.C_alloc ?_ _) | (with_reducible refine Kd.C_drewN ?_ _) | (with_reducible refine Kd.C_drew ?_) | exact HR583_0.out)⟩, ⟨by repeat (first | (with_reducible exact HR595_0.out) | (with_reducible refine Kd.C_alloc ?_ _) | (with_reducible refine Kd.C_drewN ?_ _) | (with_reducible refine Kd.C_drew ?_) | exact HR595_0.out)⟩, ⟨by repeat (first | (with_reducible first | exact HB.out | apply below_alloc | apply pw_below_drewN | apply below_drew1) | exact HB.out)⟩⟩
                  ·rw [if_neg c41] at H
                   have c41b0 : (((rd_T36 (rd_L4 t579 0) x10_3).f0).toList == ((rd_T36 t584 x9_1).f0).toList) = false := beq_eq_false_iff_ne.mpr c41
                   have c41b1 : (((rd_T36 (rd_L4 t579 0) x10_3).f0).toList != ((rd_T36 t584 x9_1).f0).toList) = true := bne_iff_ne.mpr c41
                   have H' := Aside0.mk H
                   clear H
                   try go_wp2
                   have n0_ := Aside0.mk (Kd.N_drew HO_6.out)
                   have n1_ := Aside0.mk (Kd.R_drew HO_8.out)
                   have n2_ := Aside0.mk (Kd.V_drew HL595_0.out)
                   have n3_ := Aside0.mk (Kd.C_drew HR583_0.out)
                   have n4_ := Aside0.mk (Kd.C_drew HR595_0.out)
                   have n5_ := Aside0.mk (below_drew1 HB.out)
                   clear HO_6
                   clear HO_8
                   clear HL595_0
                   clear HR583_0
                   clear HR595_0
                   clear HB
                   have HO_6 := n0_
                   have HO_8 := n1_
                   have HL595_0 := n2_
                   have HR583_0 := n3_
                   have HR595_0 := n4_
                   have HB := n5_
                   clear n0_ n1_ n2_ n3_ n4_ n5_
                   have p596 : 0 ≤ (0 : Int) := (by omega)
                   have q596 : 0 < (t579.length : Int) := of_decide_eq_true (by first | (with_reducible assumption) | assumption)
                   obtain ⟨ad596, A596_0, c596_0, e596, hx596_0, hl596_0, hi596_0⟩ := at_L4 (Kd.N_reads' HO_6.out).2.2 0 p596 q596
                   obtain rfl : ad583 = ad596 := (by injection e596)
                   obtain ⟨ce596, hce596, hMe596, hcc596⟩ := Kd.N_get HO_6.out [] 0 p596 (by first | exact q596 | exact of_decide_eq_true (by first | (with_reducible assumption) | assumption) | (have e_ := (Kd.N_reads' HO_6.out).1; omega))
                   obtain ⟨ua596_0, uc596_0, rfl, ul596_0, ge596_0⟩ := Kd.FK_slice_open hMe596
                   have hv596_0 := hcc596 0 _ rfl
                   rw [Nat.add_zero, show ((Kd.slice 36 k36)).sz = 1 from rfl, Nat.mul_one] at hv596_0
                   replace hv596_0 := Option.some.inj (hv596_0.symm.trans hx596_0)
                   injection hv596_0 with hva_ hvn_ hvc_
                   rw [hva_] at ge596_0
                   rw [hvc_] at ul596_0
                   have HL596_0 := Aside0.mk (show Kd.V k36 36 _ w.heap.size _ _ (rd_L4 t579 0) from Kd.V_mk ul596_0 ge596_0)
                   clear hva_ hvn_ hvc_ ge596_0 ul596_0
                   clear hcc596 hce596
                   have qi596 : (0 < t579.length) = True := eq_true (by omega)
                   (try rw [show ((0 : Int)).toNat = 0 from rfl] at hx596_0)
                   (try rw [Addr.add_zero'] at hx596_0)
                   have HR596_0 := Aside0.mk hi596_0
                   have HC596_0 := Aside0.mk hl596_0
                   clear hi596_0 hl596_0
                   replace p596 := eq_true p596
                   replace q596 := eq_true q596
                   have p597 : 0 ≤ (x10_3 : Int) := of_decide_eq_true (by first | (with_reducible assumption) | assumption)
                   have q597 : x10_3 < ((rd_L4 t579 0).length : Int) := of_decide_eq_true (by first | (with_reducible assumption) | assumption)
                   obtain ⟨ad597, e597, hx597_0, hx597_1, hx597_2, hx597_3⟩ := at_T36 (by repeat (first | (with_reducible exact HR596_0.out) | (with_reducible refine Kd.C_alloc ?_ _) | (with_reducible refine Kd.C_drewN ?_ _) | (with_reducible refine Kd.C_drew ?_) | exact HR596_0.out)) x10_3 p597 q597
                   cases e597
                   replace p597 := eq_true p597
                   replace q597 := eq_true q597
                   have p598 : 0 ≤ (x9_1 : Int) := of_decide_eq_true (by first | (with_reducible assumption) | assumption)
                   have q598 : x9_1 < (t584.length : Int) := of_decide_eq_true (by first | (with_reducible assumption) | assumption)
                   obtain ⟨ad598, e598, hx598_0, hx598_1, hx598_2, hx598_3⟩ := at_T36 (Kd.R_reads' HO_8.out).2.2 x9_1 p598 q598
                   cases e598
                   replace p598 := eq_true p598
                   replace q598 := eq_true q598
                   refine start_ (n := 39) (S := fun w' => w'.cell? ad583 = some (.slice (some ad597) (rd_L4 t579 0).length c596_0) ∧ w'.cell? (ad597.add ((x10_3).toNat * 4)) = some (.string ((rd_T36 (rd_L4 t579 0) x10_3).f0)) ∧ w'.cell? ⟨(ad597.add ((x10_3).toNat * 4)).block, (ad597.add ((x10_3).toNat * 4)).off + 1, none⟩ = some (.int .i64 ((rd_T36 (rd_L4 t579 0) x10_3).f1)) ∧ w'.cell? ⟨(ad597.add ((x10_3).toNat * 4)).block, (ad597.add ((x10_3).toNat * 4)).off + 2, none⟩ = some (.bool ((rd_T36 (rd_L4 t579 0) x10_3).f2)) ∧ w'.cell? ⟨(ad597.add ((x10_3).toNat * 4)).block, (ad597.add ((x10_3).toNat * 4)).off + 3, none⟩ = some (.string ((rd_T36 (rd_L4 t579 0) x10_3).f3)) ∧ w'.cell? (ad598.add ((x9_1).toNat * 4)) = some (.string ((rd_T36 t584 x9_1).f0)) ∧ w'.cell? ⟨(ad598.add ((x9_1).toNat * 4)).block, (ad598.add ((x9_1).toNat * 4)).off + 1, none⟩ = some (.int .i64 ((rd_T36 t584 x9_1).f1)) ∧ w'.cell? ⟨(ad598.add ((x9_1).toNat * 4)).block, (ad598.add ((x9_1).toNat * 4)).off + 2, none⟩ = some (.bool ((rd_T36 t584 x9_1).f2)) ∧ w'.cell? ⟨(ad598.add ((x9_1).toNat * 4)).block, (ad598.add ((x9_1).toNat * 4)).off + 3, none⟩ = some (.string ((rd_T36 t584 x9_1).f3))) (ds := []) #[ff, ff, ff, ff, ff, ff, ff, ff, ff, ff, ff, ff, ff, ff, ff, ff, ff, ff, ff, ff, ff, ff, ff, ff, ff, ff, ff, ff, ff, ff, ff, ff, ff, ff, ff, ff, ff, ff, ff] (by kernel_rfl) rfl rfl ⟨hx596_0, hx597_0, hx597_1, hx597_2, hx597_3, hx598_0, hx598_1, hx598_2, hx598_3⟩ (fun hHeld => ?_); refine with_tabW moultlaw12_MergeSees.tab14 moultlaw12_MergeSees.bits14 (fun HT_ HW_ => ?_)
                   generalize wr.drew = w45 at HO_6 HO_8 HL595_0 HR583_0 HR595_0 HB HL596_0 HR596_0 hx596_0 hx597_0 hx597_1 hx597_2 hx597_3 hx598_0 hx598_1 hx598_2 hx598_3 hHeld ⊢
                   refine pq_ (i := 0) (N := some 86) HT_ #[tt, ff, ff, ff, ff, ff, ff, ff, ff, ff, ff, ff, ff, ff, ff, ff, ff, ff, ff, ff, ff, ff, ff, ff, ff, ff, ff, ff, ff, ff, ff, ff, ff, ff, ff, ff, ff, ff, ff] ?_
                   refine pq_ (i := 1) (N := some 87) HT_ #[tt, tt, ff, ff, ff, ff, ff, ff, ff, ff, ff, ff, ff, ff, ff, ff, ff, ff, ff, ff, ff, ff, ff, ff, ff, ff, ff, ff, ff, ff, ff, ff, ff, ff, ff, ff, ff, ff, ff] ?_
                   refine pq_ (i := 3) (N := some 89) HT_ #[tt, tt, ff, tt, ff, ff, ff, ff, ff, ff, ff, ff, ff, ff, ff, ff, ff, ff, ff, ff, ff, ff, ff, ff, ff, ff, ff, ff, ff, ff, ff, ff, ff, ff, ff, ff, ff, ff, ff] ?_
                   refine pq_ (i := 7) (N := some 93) HT_ #[tt, tt, ff, tt, ff, ff, ff, tt, ff, ff, ff, ff, ff, ff, ff, ff, ff, ff, ff, ff, ff, ff, ff, ff, ff, ff, ff, ff, ff, ff, ff, ff, ff, ff, ff, ff, ff, ff, ff] ?_
                   refine pq_ (i := 8) (N := some 94) HT_ #[tt, tt, ff, tt, ff, ff, ff, tt, tt, ff, ff, ff, ff, ff, ff, ff, ff, ff, ff, ff, ff, ff, ff, ff, ff, ff, ff, ff, ff, ff, ff, ff, ff, ff, ff, ff, ff, ff, ff] ?_
                   refine pq_ (i := 9) (N := some 95) HT_ #[tt, tt, ff, tt, ff, ff, ff, tt, tt, tt, ff, ff, ff, ff, ff, ff, ff, ff, ff, ff, ff, ff, ff, ff, ff, ff, ff, ff, ff, ff, ff, ff, ff, ff, ff, ff, ff, ff, ff] ?_
                   refine pq_ (i := 10) (N := some 96) HT_ #[tt, tt, ff, tt, ff, ff, ff, tt, tt, tt, tt, ff, ff, ff, ff, ff, ff, ff, ff, ff, ff, ff, ff, ff, ff, ff, ff, ff, ff, ff, ff, ff, ff, ff, ff, ff, ff, ff, ff] ?_
                   refine take_ (i := 2) (N := some 88) (v := ?_) (a' := ?_) #[tt, tt, tt, tt, ff, ff, ff, tt, tt, tt, tt, ff, ff, ff, ff, ff, ff, ff, ff, ff, ff, ff, ff, ff, ff, ff, ff, ff, ff, ff, ff, ff, ff, ff, ff, ff, ff, ff, ff] rfl rfl (take_ofW HT_.out HW_.out (by kernel_rfl)) (fun _ _ _ h => h) (Or.inl ⟨by rfl, ?_⟩) hHeld ?_ ?_
                   rotate_left
                   ·rintro w' ⟨s0, s1, s2, s3, s4, s5, s6, s7, s8⟩
                    go_simp
                    with_reducible rfl
                   rotate_left
                   ·simp only [Act.put, List.setIfInBounds_toArray, List.set_cons_zero, List.set_cons_succ, i64_w, i32_w]
                    rfl
                   refine pq_ (i := 4) (N := some 90) HT_ #[tt, tt, tt, tt, tt, ff, ff, tt, tt, tt, tt, ff, ff, ff, ff, ff, ff, ff, ff, ff, ff, ff, ff, ff, ff, ff, ff, ff, ff, ff, ff, ff, ff, ff, ff, ff, ff, ff, ff] ?_
                   refine pq_ (i := 5) (N := some 91) HT_ #[tt, tt, tt, tt, tt, tt, ff, tt, tt, tt, tt, ff, ff, ff, ff, ff, ff, ff, ff, ff, ff, ff, ff, ff, ff, ff, ff, ff, ff, ff, ff, ff, ff, ff, ff, ff, ff, ff, ff] ?_
                   refine take_ (i := 6) (N := some 92) (v := ?_) (a' := ?_) #[tt, tt, tt, tt, tt, tt, tt, tt, tt, tt, tt, ff, ff, ff, ff, ff, ff, ff, ff, ff, ff, ff, ff, ff, ff, ff, ff, ff, ff, ff, ff, ff, ff, ff, ff, ff, ff, ff, ff] rfl rfl (take_ofW HT_.out HW_.out (by kernel_rfl)) (fun _ _ _ h => h) (Or.inl ⟨by rfl, ?_⟩) hHeld ?_ ?_
                   rotate_left
                   ·rintro w' ⟨s0, s1, s2, s3, s4, s5, s6, s7, s8⟩
                    go_simp
                    with_reducible rfl
                   rotate_left
                   ·simp only [Act.put, List.setIfInBounds_toArray, List.set_cons_zero, List.set_cons_succ, i64_w, i32_w]
                    rfl
                   refine take_ (i := 11) (N := some 97) (v := ?_) (a' := ?_) #[tt, tt, tt, tt, tt, tt, tt, tt, tt, tt, tt, tt, ff, ff, ff, ff, ff, ff, ff, ff, ff, ff, ff, ff, ff, ff, ff, ff, ff, ff, ff, ff, ff, ff, ff, ff, ff, ff, ff] rfl rfl (take_ofW HT_.out HW_.out (by kernel_rfl)) (fun _ _ _ h => h) (Or.inl ⟨by rfl, ?_⟩) hHeld ?_ ?_
                   rotate_left
                   ·rintro w' ⟨s0, s1, s2, s3, s4, s5, s6, s7, s8⟩
                    go_simp
                    with_reducible rfl
                   rotate_left
                   ·simp only [Act.put, List.setIfInBounds_toArray, List.set_cons_zero, List.set_cons_succ, i64_w, i32_w]
                    rfl
                   refine pq_ (i := 12) (N := some 98) HT_ #[tt, tt, tt, tt, tt, tt, tt, tt, tt, tt, tt, tt, tt, ff, ff, ff, ff, ff, ff, ff, ff, ff, ff, ff, ff, ff, ff, ff, ff, ff, ff, ff, ff, ff, ff, ff, ff, ff, ff] ?_
                   refine pq_ (i := 13) (N := some 99) HT_ #[tt, tt, tt, tt, tt, tt, tt, tt, tt, tt, tt, tt, tt, tt, ff, ff, ff, ff, ff, ff, ff, ff, ff, ff, ff, ff, ff, ff, ff, ff, ff, ff, ff, ff, ff, ff, ff, ff, ff] ?_
                   refine pu_ (i := 14) (N := some 100) HT_ #[tt, tt, tt, tt, tt, tt, tt, tt, tt, tt, tt, tt, tt, tt, tt, ff, ff, ff, ff, ff, ff, ff, ff, ff, ff, ff, ff, ff, ff, ff, ff, ff, ff, ff, ff, ff, ff, ff, ff] ?_
                   refine pu_ (i := 15) (N := some 101) HT_ #[tt, tt, tt, tt, tt, tt, tt, tt, tt, tt, tt, tt, tt, tt, tt, tt, ff, ff, ff, ff, ff, ff, ff, ff, ff, ff, ff, ff, ff, ff, ff, ff, ff, ff, ff, ff, ff, ff, ff] ?_
                   refine pu_ (i := 16) (N := some 102) HT_ #[tt, tt, tt, tt, tt, tt, tt, tt, tt, tt, tt, tt, tt, tt, tt, tt, tt, ff, ff, ff, ff, ff, ff, ff, ff, ff, ff, ff, ff, ff, ff, ff, ff, ff, ff, ff, ff, ff, ff] ?_
                   refine pu_ (i := 17) (N := some 103) HT_ #[tt, tt, tt, tt, tt, tt, tt, tt, tt, tt, tt, tt, tt, tt, tt, tt, tt, tt, ff, ff, ff, ff, ff, ff, ff, ff, ff, ff, ff, ff, ff, ff, ff, ff, ff, ff, ff, ff, ff] ?_
                   refine pu_ (i := 18) (N := some 104) HT_ #[tt, tt, tt, tt, tt, tt, tt, tt, tt, tt, tt, tt, tt, tt, tt, tt, tt, tt, tt, ff, ff, ff, ff, ff, ff, ff, ff, ff, ff, ff, ff, ff, ff, ff, ff, ff, ff, ff, ff] ?_
                   refine pu_ (i := 19) (N := some 105) HT_ #[tt, tt, tt, tt, tt, tt, tt, tt, tt, tt, tt, tt, tt, tt, tt, tt, tt, tt, tt, tt, ff, ff, ff, ff, ff, ff, ff, ff, ff, ff, ff, ff, ff, ff, ff, ff, ff, ff, ff] ?_
                   refine pu_ (i := 20) (N := some 106) HT_ #[tt, tt, tt, tt, tt, tt, tt, tt, tt, tt, tt, tt, tt, tt, tt, tt, tt, tt, tt, tt, tt, ff, ff, ff, ff, ff, ff, ff, ff, ff, ff, ff, ff, ff, ff, ff, ff, ff, ff] ?_
                   refine pu_ (i := 21) (N := some 107) HT_ #[tt, tt, tt, tt, tt, tt, tt, tt, tt, tt, tt, tt, tt, tt, tt, tt, tt, tt, tt, tt, tt, tt, ff, ff, ff, ff, ff, ff, ff, ff, ff, ff, ff, ff, ff, ff, ff, ff, ff] ?_
                   refine pu_ (i := 22) (N := some 108) HT_ #[tt, tt, tt, tt, tt, tt, tt, tt, tt, tt, tt, tt, tt, tt, tt, tt, tt, tt, tt, tt, tt, tt, tt, ff, ff, ff, ff, ff, ff, ff, ff, ff, ff, ff, ff, ff, ff, ff, ff] ?_
                   refine pu_ (i := 23) (N := some 109) HT_ #[tt, tt, tt, tt, tt, tt, tt, tt, tt, tt, tt, tt, tt, tt, tt, tt, tt, tt, tt, tt, tt, tt, tt, tt, ff, ff, ff, ff, ff, ff, ff, ff, ff, ff, ff, ff, ff, ff, ff] ?_
                   refine pu_ (i := 24) (N := some 110) HT_ #[tt, tt, tt, tt, tt, tt, tt, tt, tt, tt, tt, tt, tt, tt, tt, tt, tt, tt, tt, tt, tt, tt, tt, tt, tt, ff, ff, ff, ff, ff, ff, ff, ff, ff, ff, ff, ff, ff, ff] ?_
                   refine pu_ (i := 25) (N := some 111) HT_ #[tt, tt, tt, tt, tt, tt, tt, tt, tt, tt, tt, tt, tt, tt, tt, tt, tt, tt, tt, tt, tt, tt, tt, tt, tt, tt, ff, ff, ff, ff, ff, ff, ff, ff, ff, ff, ff, ff, ff] ?_
                   refine pu_ (i := 26) (N := some 112) HT_ #[tt, tt, tt, tt, tt, tt, tt, tt, tt, tt, tt, tt, tt, tt, tt, tt, tt, tt, tt, tt, tt, tt, tt, tt, tt, tt, tt, ff, ff, ff, ff, ff, ff, ff, ff, ff, ff, ff, ff] ?_
                   refine pq_ (i := 27) (N := some 113) HT_ #[tt, tt, tt, tt, tt, tt, tt, tt, tt, tt, tt, tt, tt, tt, tt, tt, tt, tt, tt, tt, tt, tt, tt, tt, tt, tt, tt, tt, ff, ff, ff, ff, ff, ff, ff, ff, ff, ff, ff] ?_
                   refine pq_ (i := 28) (N := some 114) HT_ #[tt, tt, tt, tt, tt, tt, tt, tt, tt, tt, tt, tt, tt, tt, tt, tt, tt, tt, tt, tt, tt, tt, tt, tt, tt, tt, tt, tt, tt, ff, ff, ff, ff, ff, ff, ff, ff, ff, ff] ?_
                   refine pu_ (i := 29) (N := some 115) HT_ #[tt, tt, tt, tt, tt, tt, tt, tt, tt, tt, tt, tt, tt, tt, tt, tt, tt, tt, tt, tt, tt, tt, tt, tt, tt, tt, tt, tt, tt, tt, ff, ff, ff, ff, ff, ff, ff, ff, ff] ?_
                   refine pu_ (i := 30) (N := some 116) HT_ #[tt, tt, tt, tt, tt, tt, tt, tt, tt, tt, tt, tt, tt, tt, tt, tt, tt, tt, tt, tt, tt, tt, tt, tt, tt, tt, tt, tt, tt, tt, tt, ff, ff, ff, ff, ff, ff, ff, ff] ?_
                   refine pu_ (i := 31) (N := some 117) HT_ #[tt, tt, tt, tt, tt, tt, tt, tt, tt, tt, tt, tt, tt, tt, tt, tt, tt, tt, tt, tt, tt, tt, tt, tt, tt, tt, tt, tt, tt, tt, tt, tt, ff, ff, ff, ff, ff, ff, ff] ?_
                   refine pu_ (i := 32) (N := some 118) HT_ #[tt, tt, tt, tt, tt, tt, tt, tt, tt, tt, tt, tt, tt, tt, tt, tt, tt, tt, tt, tt, tt, tt, tt, tt, tt, tt, tt, tt, tt, tt, tt, tt, tt, ff, ff, ff, ff, ff, ff] ?_
                   refine pu_ (i := 33) (N := some 119) HT_ #[tt, tt, tt, tt, tt, tt, tt, tt, tt, tt, tt, tt, tt, tt, tt, tt, tt, tt, tt, tt, tt, tt, tt, tt, tt, tt, tt, tt, tt, tt, tt, tt, tt, tt, ff, ff, ff, ff, ff] ?_
                   refine pu_ (i := 34) (N := some 120) HT_ #[tt, tt, tt, tt, tt, tt, tt, tt, tt, tt, tt, tt, tt, tt, tt, tt, tt, tt, tt, tt, tt, tt, tt, tt, tt, tt, tt, tt, tt, tt, tt, tt, tt, tt, tt, ff, ff, ff, ff] ?_
                   refine pu_ (i := 35) (N := some 121) HT_ #[tt, tt, tt, tt, tt, tt, tt, tt, tt, tt, tt, tt, tt, tt, tt, tt, tt, tt, tt, tt, tt, tt, tt, tt, tt, tt, tt, tt, tt, tt, tt, tt, tt, tt, tt, tt, ff, ff, ff] ?_
                   refine pu_ (i := 36) (N := some 122) HT_ #[tt, tt, tt, tt, tt, tt, tt, tt, tt, tt, tt, tt, tt, tt, tt, tt, tt, tt, tt, tt, tt, tt, tt, tt, tt, tt, tt, tt, tt, tt, tt, tt, tt, tt, tt, tt, tt, ff, ff] ?_
                   refine pu_ (i := 37) (N := some 123) HT_ #[tt, tt, tt, tt, tt, tt, tt, tt, tt, tt, tt, tt, tt, tt, tt, tt, tt, tt, tt, tt, tt, tt, tt, tt, tt, tt, tt, tt, tt, tt, tt, tt, tt, tt, tt, tt, tt, tt, ff] ?_
                   refine pq_ (i := 38) (N := some 124) HT_ #[tt, tt, tt, tt, tt, tt, tt, tt, tt, tt, tt, tt, tt, tt, tt, tt, tt, tt, tt, tt, tt, tt, tt, tt, tt, tt, tt, tt, tt, tt, tt, tt, tt, tt, tt, tt, tt, tt, tt] ?_
                   refine done_ (done_of HT_.out (by kernel_rfl)) ?_
                   try go_wp2
                   go_meet
                   case rel => exact ⟨_, (false), (by first | rfl | (simp; done) | (simp [*]; done)), H', ⟨by have := HK1.out; have := HJ16.out; have := HK3.out; first | omega | exact Nat.le_refl _⟩, ⟨by (with_reducible repeat (first | apply Kd.N_alloc | apply Kd.N_drewN | apply Kd.N_drew)); exact HO_6.out⟩, ⟨by (with_reducible repeat (first | apply Kd.R_alloc | apply Kd.R_drewN | apply Kd.R_drew)); exact HO_8.out⟩, ⟨by repeat (first | (with_reducible exact HR583_0.out) | (with_reducible refine Kd.C_alloc ?_ _) | (with_reducible refine Kd.C_drewN ?_ _) | (with_reducible refine Kd.C_drew ?_) | exact HR583_0.out)⟩, ⟨by repeat (first | (with_reducible exact HR595_0.out) | (with_reducible refine Kd.C_alloc ?_ _) | (with_reducible refine Kd.C_drewN ?_ _) | (with_reducible refine Kd.C_drew ?_) | exact HR595_0.out)⟩, ⟨by repeat (first | (with_reducible first | exact HB.out | apply below_alloc | apply pw_below_drewN | apply below_drew1) | exact HB.out)⟩⟩
                 ·rw [if_neg c40] at H
                  exact absurd H (by simp)
                ·rw [if_neg c39] at H
                 exact absurd H (by simp)
               ·rw [if_neg c38] at H
                exact absurd H (by simp)
              case rest =>
               clear HC37
               try clear p2
               try clear c3
               try clear c4
               try clear c5
               try clear p5
               try clear q5
               try clear hx5
               try clear qi5
               try clear p6
               try clear q6
               try clear hx6
               try clear c38
               try clear c39
               try clear c40
               try clear c41
               try clear c41b0
               try clear c41b1
               try clear hx596_0
               try clear hx597_0
               try clear hx597_1
               try clear hx597_2
               try clear hx597_3
               try clear hx598_0
               try clear hx598_1
               try clear hx598_2
               try clear hx598_3
               try clear hx599_0
               try clear hx600_0
               try clear hx600_1
               try clear hx600_2
               try clear hx600_3
               try clear hx601_0
               try clear hx601_1
               try clear hx601_2
               try clear hx601_3
               try clear p596
               try clear p597
               try clear p598
               try clear p599
               try clear p600
               try clear p601
               try clear q596
               try clear q597
               try clear q598
               try clear q599
               try clear q600
               try clear q601
               obtain ⟨kq, x124_36, rfl, HA, HJ36, HO_6, HO_8, HR583_0, HR595_0, HB⟩ := hcut
               cases kq with
               | zero => exact absurd HA.out (by simp [moultlaw12_MergeSees.j3])
               | succ kj36 =>
                have H := HA.out
                clear HA
                simp only [moultlaw12_MergeSees.j3] at H
                by_cases c46 : x124_36 = true
                ·subst c46
                 have H1 : (none) = some r := by rw [if_pos rfl] at H; exact H
                 clear H
                 have H := H1
                 clear H1
                 exact absurd H (by simp)
                ·replace c46 := Bool.eq_false_iff.mpr c46
                 subst c46
                 have H1 : (moultlaw12_MergeSees.l1 kj36 a1 t579 t584 x9_1 (wrap64 (x10_3 + 1))) = some r := by rw [if_neg (show ¬ (false = true) by decide)] at H; exact H
                 clear H
                 have H := H1
                 clear H1
                 have H' := Aside0.mk H
                 clear H
                 go_wp2
                 go_roundg kj36
                 case measure => have := HK1.out; have := HJ16.out; have := HK3.out; have := HJ36.out; omega
                 case rel => exact ⟨(wrap64 (x10_3 + 1)), (by first | rfl | (simp; done) | (simp [*]; done)), H', ⟨by have := HK1.out; have := HJ16.out; have := HK3.out; have := HJ36.out; omega⟩, ⟨by (with_reducible repeat (first | apply Kd.N_alloc | apply Kd.N_drewN | apply Kd.N_drew)); exact HO_6.out⟩, ⟨by (with_reducible repeat (first | apply Kd.R_alloc | apply Kd.R_drewN | apply Kd.R_drew)); exact HO_8.out⟩, ⟨by repeat (first | (with_reducible exact HR583_0.out) | (with_reducible refine Kd.C_alloc ?_ _) | (with_reducible refine Kd.C_drewN ?_ _) | (with_reducible refine Kd.C_drew ?_) | exact HR583_0.out)⟩, ⟨by repeat (first | (with_reducible first | exact HB.out | apply below_alloc | apply pw_below_drewN | apply below_drew1) | exact HB.out)⟩⟩
             ·rw [if_neg c36] at H
              have c36b0 : decide (x10_3 < ((rd_L4 t579 0).length : Int)) = false := decide_eq_false c36
              clear c36
              have H' := Aside0.mk H
              clear H
              have p595 : 0 ≤ (0 : Int) := (by omega)
              have q595 : 0 < (t579.length : Int) := of_decide_eq_true (by first | (with_reducible assumption) | assumption)
              obtain ⟨ad595, A595_0, c595_0, e595, hx595_0, hl595_0, hi595_0⟩ := at_L4 (Kd.N_reads' HO_6.out).2.2 0 p595 q595
              obtain rfl : ad583 = ad595 := (by injection e595)
              obtain ⟨ce595, hce595, hMe595, hcc595⟩ := Kd.N_get HO_6.out [] 0 p595 (by first | exact q595 | exact of_decide_eq_true (by first | (with_reducible assumption) | assumption) | (have e_ := (Kd.N_reads' HO_6.out).1; omega))
              obtain ⟨ua595_0, uc595_0, rfl, ul595_0, ge595_0⟩ := Kd.FK_slice_open hMe595
              have hv595_0 := hcc595 0 _ rfl
              rw [Nat.add_zero, show ((Kd.slice 36 k36)).sz = 1 from rfl, Nat.mul_one] at hv595_0
              replace hv595_0 := Option.some.inj (hv595_0.symm.trans hx595_0)
              injection hv595_0 with hva_ hvn_ hvc_
              rw [hva_] at ge595_0
              rw [hvc_] at ul595_0
              have HL595_0 := Aside0.mk (show Kd.V k36 36 _ w.heap.size _ _ (rd_L4 t579 0) from Kd.V_mk ul595_0 ge595_0)
              clear hva_ hvn_ hvc_ ge595_0 ul595_0
              clear hcc595 hce595
              have qi595 : (0 < t579.length) = True := eq_true (by omega)
              (try rw [show ((0 : Int)).toNat = 0 from rfl] at hx595_0)
              (try rw [Addr.add_zero'] at hx595_0)
              have HR595_0 := Aside0.mk hi595_0
              have HC595_0 := Aside0.mk hl595_0
              clear hi595_0 hl595_0
              replace p595 := eq_true p595
              replace q595 := eq_true q595
              go_wp2
              go_roundg k3
              case measure => have := HK1.out; have := HJ16.out; have := HK3.out; omega
              case rel => exact ⟨(wrap64 (x9_1 + 1)), (by first | rfl | (simp; done) | (simp [*]; done)), H', ⟨by have := HK1.out; have := HJ16.out; have := HK3.out; omega⟩, ⟨by (with_reducible repeat (first | apply Kd.N_alloc | apply Kd.N_drewN | apply Kd.N_drew)); exact HO_6.out⟩, ⟨by (with_reducible repeat (first | apply Kd.R_alloc | apply Kd.R_drewN | apply Kd.R_drew)); exact HO_8.out⟩, ⟨by repeat (first | (with_reducible exact HR583_0.out) | (with_reducible refine Kd.C_alloc ?_ _) | (with_reducible refine Kd.C_drewN ?_ _) | (with_reducible refine Kd.C_drew ?_) | exact HR583_0.out)⟩, ⟨by repeat (first | (with_reducible first | exact HB.out | apply below_alloc | apply pw_below_drewN | apply below_drew1) | exact HB.out)⟩⟩
            ·rw [if_neg c35] at H
             exact absurd H (by simp)
      ·rw [if_neg c16] at H
       have c16b0 : decide (x9_1 < (t584.length : Int)) = false := decide_eq_false c16
       clear c16
       replace H := Option.bind_eq_some_iff.mp H
       obtain ⟨t604, A470, H⟩ := H
       replace H : ((moultlaw12_same.f k1 t604 t584).bind fun t607 => (if t607 = true then (if 0 < (t579.length : Int) then ((merge_Visible.f k1 (rd_L4 t579 0) (-1)).bind fun t609 => (some ((t609.length : Int) == 0))) else (none)) else (none))) = some r := H
       have A47 := Aside0.mk A470
       clear A470
       replace H := Option.bind_eq_some_iff.mp H
       obtain ⟨t607, A480, H⟩ := H
       replace H : (if t607 = true then (if 0 < (t579.length : Int) then ((merge_Visible.f k1 (rd_L4 t579 0) (-1)).bind fun t609 => (some ((t609.length : Int) == 0))) else (none)) else (none)) = some r := H
       have A48 := Aside0.mk A480
       clear A480
       by_cases c49 : t607 = true
       ·subst c49
        have H1 : (if 0 < (t579.length : Int) then ((merge_Visible.f k1 (rd_L4 t579 0) (-1)).bind fun t609 => (some ((t609.length : Int) == 0))) else (none)) = some r := by rw [if_pos rfl] at H; exact H
        clear H
        have H := H1
        clear H1
        by_cases c50 : 0 < (t579.length : Int)
        ·rw [if_pos c50] at H
         have c50b0 : decide (0 < (t579.length : Int)) = true := decide_eq_true c50
         have c50b1 : decide (0 < t579.length) = true := decide_eq_true (by omega)
         clear c50
         replace H := Option.bind_eq_some_iff.mp H
         obtain ⟨t609, A510, H⟩ := H
         replace H : (some ((t609.length : Int) == 0)) = some r := H
         have A51 := Aside0.mk A510
         clear A510
         obtain rfl := Option.some.inj H
         obtain ⟨Ao52, co52, eo52⟩ := Kd.R_slice HO_8.out
         subst eo52
         go_wp2_with (first | ((with_reducible refine gate_callee (f := 14) rfl ?_); refine goesL_ (some 127) rfl rfl Try.func14 (by kernel_rfl) rfl #[.slice Ao52 t584.length co52, .int .i64 a1] rfl (by (try simp only [List.map_toArray, List.map_cons, List.map_nil]); first | done | rfl | (simp only [List.length_drop, List.length_take]; rfl)) ?_; (with_reducible refine (merge_Visible.calls k1 _ _ t584 a1 t604 _ ?side1 ?side2 A47.out).mono ?_); (case side1 => repeat (first | exact (Kd.R_reads' HO_8.out).2.2 | (with_reducible refine Kd.C_alloc ?_ _) | (with_reducible refine Kd.C_drewN ?_ _) | (with_reducible refine Kd.C_drew ?_))); (case side2 => exact (Kd.R_reads' HO_8.out).2.1); rintro e w53 ⟨v605, rfl, ho0, hb⟩; refine ⟨_, rfl, ?_⟩; have n0_ := Aside0.mk (Kd.N_elder' (by (with_reducible repeat (first | apply Kd.N_alloc | apply Kd.N_drewN | apply Kd.N_drew)); exact HO_6.out) (Kd.R_base ho0) hb); have n1_ := Aside0.mk (Kd.R_elder' (by (with_reducible repeat (first | apply Kd.R_alloc | apply Kd.R_drewN | apply Kd.R_drew)); exact HO_8.out) (Kd.R_base ho0) hb); have n2_ := Aside0.mk (Kd.R_lower (Kd.R_new' (Kd.R_newM (M := fun k_ => (w.heap.size ≤ k_)) ho0 (below_size (by repeat (first | (with_reducible first | exact HB.out | apply below_alloc | apply pw_below_drewN | apply below_drew1) | exact HB.out))) (fun k_ h_ => h_)) (Kd.R_lt (by (with_reducible repeat (first | apply Kd.R_alloc | apply Kd.R_drewN | apply Kd.R_drew)); exact HO_8.out))) (below_size (by repeat (first | (with_reducible first | exact HB.out | apply below_alloc | apply pw_below_drewN | apply below_drew1) | exact HB.out)))); have n3_ := Aside0.mk (Kd.C_below (by repeat (first | (with_reducible exact HR583_0.out) | (with_reducible refine Kd.C_alloc ?_ _) | (with_reducible refine Kd.C_drewN ?_ _) | (with_reducible refine Kd.C_drew ?_) | exact HR583_0.out)) hb); have n4_ := Aside0.mk (below_step (by repeat (first | (with_reducible first | exact HB.out | apply below_alloc | apply pw_below_drewN | apply below_drew1) | exact HB.out)) hb); clear HO_6; clear HO_8; clear HR583_0; clear HB; have HO_6 := n0_; have HO_8 := n1_; have HO606 := n2_; have HR583_0 := n3_; have HB := n4_; clear n0_ n1_ n2_ n3_ n4_; (try clear hb); (try clear hb2); (try clear hk); (try clear hi); (try clear ho0); obtain ⟨Ao54, co54, eo54⟩ := Kd.R_slice HO606.out; subst eo54) | ((with_reducible refine gate_callee (f := 13) rfl ?_); refine goesL_ (some 130) rfl rfl Try.func13 (by kernel_rfl) rfl #[.slice Ao54 t604.length co54, .slice Ao52 t584.length co52] rfl (by (try simp only [List.map_toArray, List.map_cons, List.map_nil]); first | done | rfl | (simp only [List.length_drop, List.length_take]; rfl)) ?_; (with_reducible refine (moultlaw12_same.calls k1 _ _ t604 _ _ t584 true _ ?side1 ?side2 ?side3 ?side4 A48.out).mono ?_); (case side1 => repeat (first | exact (Kd.R_reads' HO606.out).2.2 | (with_reducible refine Kd.C_alloc ?_ _) | (with_reducible refine Kd.C_drewN ?_ _) | (with_reducible refine Kd.C_drew ?_))); (case side2 => exact (Kd.R_reads' HO606.out).2.1); (case side3 => repeat (first | exact (Kd.R_reads' HO_8.out).2.2 | (with_reducible refine Kd.C_alloc ?_ _) | (with_reducible refine Kd.C_drewN ?_ _) | (with_reducible refine Kd.C_drew ?_))); (case side4 => exact (Kd.R_reads' HO_8.out).2.1); rintro e w' ⟨rfl, ⟨nd, rfl⟩⟩; refine ⟨_, rfl, ?_⟩; have p608 : 0 ≤ (0 : Int) := (by omega); have q608 : 0 < (t579.length : Int) := of_decide_eq_true (by first | (with_reducible assumption) | assumption); obtain ⟨ad608, A608_0, c608_0, e608, hx608_0, hl608_0, hi608_0⟩ := at_L4 (Kd.N_reads' HO_6.out).2.2 0 p608 q608; obtain rfl : ad583 = ad608 := (by injection e608); obtain ⟨ce608, hce608, hMe608, hcc608⟩ := Kd.N_get HO_6.out [] 0 p608 (by first | exact q608 | exact of_decide_eq_true (by first | (with_reducible assumption) | assumption) | (have e_ := (Kd.N_reads' HO_6.out).1; omega)); obtain ⟨ua608_0, uc608_0, rfl, ul608_0, ge608_0⟩ := Kd.FK_slice_open hMe608; have hv608_0 := hcc608 0 _ rfl; rw [Nat.add_zero, show ((Kd.slice 36 k36)).sz = 1 from rfl, Nat.mul_one] at hv608_0; replace hv608_0 := Option.some.inj (hv608_0.symm.trans hx608_0); injection hv608_0 with hva_ hvn_ hvc_; rw [hva_] at ge608_0; rw [hvc_] at ul608_0; have HL608_0 := Aside0.mk (show Kd.V k36 36 _ w.heap.size _ _ (rd_L4 t579 0) from Kd.V_mk ul608_0 ge608_0); clear hva_ hvn_ hvc_ ge608_0 ul608_0; clear hcc608 hce608; have qi608 : (0 < t579.length) = True := eq_true (by omega); (try rw [show ((0 : Int)).toNat = 0 from rfl] at hx608_0); (try rw [Addr.add_zero'] at hx608_0); have HR608_0 := Aside0.mk hi608_0; have HC608_0 := Aside0.mk hl608_0; clear hi608_0 hl608_0; replace p608 := eq_true p608; replace q608 := eq_true q608) | (go_at_call 14; (with_reducible refine (merge_Visible.calls k1 _ _ (rd_L4 t579 0) (-1) t609 _ ?side1 ?side2 A51.out).mono ?_); (case side1 => repeat (first | exact (by repeat (first | (with_reducible exact HR608_0.out) | (with_reducible refine Kd.C_alloc ?_ _) | (with_reducible refine Kd.C_drewN ?_ _) | (with_reducible refine Kd.C_drew ?_) | exact HR608_0.out)) | (with_reducible refine Kd.C_alloc ?_ _) | (with_reducible refine Kd.C_drewN ?_ _) | (with_reducible refine Kd.C_drew ?_))); (case side2 => exact HC608_0.out); rintro e w55 ⟨v610, rfl, ho0, hb⟩; have n0_ := Aside0.mk (Kd.N_elder' (by (with_reducible repeat (first | apply Kd.N_alloc | apply Kd.N_drewN | apply Kd.N_drew)); exact HO_6.out) (Kd.R_base ho0) hb); have n1_ := Aside0.mk (Kd.R_elder' (by (with_reducible repeat (first | apply Kd.R_alloc | apply Kd.R_drewN | apply Kd.R_drew)); exact HO_8.out) (Kd.R_base ho0) hb); have n2_ := Aside0.mk (Kd.R_elder' (by (with_reducible repeat (first | apply Kd.R_alloc | apply Kd.R_drewN | apply Kd.R_drew)); exact HO606.out) (Kd.R_base ho0) hb); have n3_ := Aside0.mk (Kd.V_elder' (by (with_reducible repeat (first | apply Kd.V_alloc | apply Kd.V_drewN | apply Kd.V_drew)); exact HL608_0.out) (Kd.R_base ho0) hb); have n4_ := Aside0.mk (Kd.R_lower (Kd.R_new' (Kd.R_new' (Kd.R_newM (M := fun k_ => (w.heap.size ≤ k_)) ho0 (below_size (by repeat (first | (with_reducible first | exact HB.out | apply below_alloc | apply pw_below_drewN | apply below_drew1) | exact HB.out))) (fun k_ h_ => h_)) (Kd.R_lt (by (with_reducible repeat (first | apply Kd.R_alloc | apply Kd.R_drewN | apply Kd.R_drew)); exact HO_8.out))) (Kd.R_lt (by (with_reducible repeat (first | apply Kd.R_alloc | apply Kd.R_drewN | apply Kd.R_drew)); exact HO606.out))) (below_size (by repeat (first | (with_reducible first | exact HB.out | apply below_alloc | apply pw_below_drewN | apply below_drew1) | exact HB.out)))); have n5_ := Aside0.mk (Kd.C_below (by repeat (first | (with_reducible exact HR583_0.out) | (with_reducible refine Kd.C_alloc ?_ _) | (with_reducible refine Kd.C_drewN ?_ _) | (with_reducible refine Kd.C_drew ?_) | exact HR583_0.out)) hb); have n6_ := Aside0.mk (Kd.C_below (by repeat (first | (with_reducible exact HR608_0.out) | (with_reducible refine Kd.C_alloc ?_ _) | (with_reducible refine Kd.C_drewN ?_ _) | (with_reducible refine Kd.C_drew ?_) | exact HR608_0.out)) hb); have n7_ := Aside0.mk (below_step (by repeat (first | (with_reducible first | exact HB.out | apply below_alloc | apply pw_below_drewN | apply below_drew1) | exact HB.out)) hb); clear HO_6; clear HO_8; clear HO606; clear HL608_0; clear HR583_0; clear HR608_0; clear HB; have HO_6 := n0_; have HO_8 := n1_; have HO606 := n2_; have HL608_0 := n3_; have HO611 := n4_; have HR583_0 := n5_; have HR608_0 := n6_; have HB := n7_; clear n0_ n1_ n2_ n3_ n4_ n5_ n6_ n7_; (try clear hb); (try clear hb2); (try clear hk); (try clear hi); (try clear ho0); obtain ⟨Ao56, co56, eo56⟩ := Kd.R_slice HO611.out; subst eo56))
         go_ret
         exact ⟨by first | rfl | (simp [errW_none, errW_some] <;> rfl) | (simp [*, errW_none, errW_some] <;> rfl), by repeat (first | (with_reducible first | exact HB.out | apply below_alloc | apply pw_below_drewN | apply below_drew1) | exact HB.out)⟩
        ·rw [if_neg c50] at H
         exact absurd H (by simp)
       ·replace c49 := Bool.eq_false_iff.mpr c49
        subst c49
        have H1 : (none) = some r := by rw [if_neg (show ¬ (false = true) by decide)] at H; exact H
        clear H
        have H := H1
        clear H1
        exact absurd H (by simp)
   ·rw [if_neg c7] at H
    exact absurd H (by simp)
  ·replace c6 := Bool.eq_false_iff.mpr c6
   subst c6
   have H1 : (some true) = some r := by rw [if_neg (show ¬ (false = true) by decide)] at H; exact H
   clear H
   have H := H1
   clear H1
   obtain rfl := Option.some.inj H
   go_enter Try.func7, Try.ntmps7
   go_wp2_with (first | ((with_reducible refine gate_callee (f := 9) rfl ?_); refine goesL_ (some 12) rfl rfl Try.func9 (by kernel_rfl) rfl #[] rfl (by (try simp only [List.map_toArray, List.map_cons, List.map_nil]); first | done | rfl | (simp only [List.length_drop, List.length_take]; rfl)) ?_; (with_reducible refine (moultlaw12_shown.calls k  true _ A3.out).mono ?_); rintro e w57 ⟨rfl, hb⟩; refine ⟨_, rfl, ?_⟩; have n0_ := Aside0.mk (Kd.V_below (by (with_reducible repeat (first | apply Kd.V_alloc | apply Kd.V_drewN | apply Kd.V_drew)); exact HO0.out) hb); have n1_ := Aside0.mk (below_step (by repeat (first | (with_reducible first | exact HB.out | apply below_alloc | apply pw_below_drewN | apply below_drew1) | exact HB.out)) hb); clear HO0; clear HB; have HO0 := n0_; have HB := n1_; clear n0_ n1_; (try clear hb); (try clear hb2); (try clear hk); (try clear hi)) | ((with_reducible refine gate_dst (N := 15) rfl ?_); (try (refine gate_guard (by rfl) ?_; dsimp only)); refine Kd.N_lit (Kd.slice 36 k36) _ 27 ?hg (N' := 15) ?hd (xs := ([l0] : List (List (S36)))) (inner := [.slice A0 l0.length c0]) (ok := (fun k_ => (P0_ k_ ∨ w.heap.size ≤ k_))) (okp := (fun k_ => (P0_ k_ ∨ w.heap.size ≤ k_))) ?hr ?hp (fun _ hk => hk) ((show ∀ k_, w57.heap.size ≤ k_ → (fun k_ => (P0_ k_ ∨ w.heap.size ≤ k_)) k_ from fun k_ hk => (.inr (Nat.le_trans (below_size (by repeat (first | (with_reducible first | exact HB.out | apply below_alloc | apply pw_below_drewN | apply below_drew1) | exact HB.out))) hk))) _ (Nat.le_refl _)) (Below.refl _ _) (Nat.le_refl _) (by simp) ?_; (case hd => rfl); (case hg => rfl); (case hr => first | (go_simp; done) | (go_simp; rfl)); (case hp => first | exact (Reps.one (show Kd.FK (Kd.slice 36 k36) _ _ l0 [.slice A0 l0.length c0] from (Kd.FK_slice_mk (Kd.V_reads' (Kd.V_mono (ok' := (fun k_ => (P0_ k_ ∨ w.heap.size ≤ k_))) (HO0.out) (fun k_ hk => hk))).2.1 (Kd.V_F (Kd.V_mono (ok' := (fun k_ => (P0_ k_ ∨ w.heap.size ≤ k_))) (HO0.out) (fun k_ hk => hk))))) (Reps.none _ _)) | exact (Reps.one (show Kd.FK (Kd.slice 36 k36) _ _ l0 [.slice A0 l0.length c0] from (Kd.FK_slice_mk (Kd.V_reads' (Kd.V_mono (ok' := (fun k_ => (P0_ k_ ∨ w.heap.size ≤ k_))) (HO0.out) (fun k_ hk => hk))).2.1 (Kd.V_F (Kd.V_mono (ok' := (fun k_ => (P0_ k_ ∨ w.heap.size ≤ k_))) (Kd.V_drewN HO0.out _) (fun k_ hk => hk))))) (Reps.none _ _))); intro v577 w58 ho59 hb hg_ hnew_; clear hg_ hnew_; (first | rw [← Ny576.out] at ho59 | (simp only [Int.reduceToNat] at ho59; rw [← Ny576.out] at ho59)); have n0_ := Aside0.mk (Kd.V_elder' (by (with_reducible repeat (first | apply Kd.V_alloc | apply Kd.V_drewN | apply Kd.V_drew)); exact HO0.out) (Kd.N_base ho59) hb); have n1_ := Aside0.mk (Kd.N_lower ho59 (below_size (by repeat (first | (with_reducible first | exact HB.out | apply below_alloc | apply pw_below_drewN | apply below_drew1) | exact HB.out)))); have n2_ := Aside0.mk (below_step (by repeat (first | (with_reducible first | exact HB.out | apply below_alloc | apply pw_below_drewN | apply below_drew1) | exact HB.out)) hb); clear HO0; clear HB; have HO0 := n0_; have HO578 := n1_; have HB := n2_; clear n0_ n1_ n2_; clear hb ho59; obtain ⟨Ao60, co60, eo60⟩ := Kd.N_slice HO578.out; subst eo60) | ((with_reducible refine gate_callee (f := 10) rfl ?_); refine goesL_ (some 16) rfl rfl Try.func10 (by kernel_rfl) rfl #[.slice Ao60 y576.length co60] rfl (by (try simp only [List.map_toArray, List.map_cons, List.map_nil]); first | done | rfl | (simp only [List.length_drop, List.length_take]; rfl)) ?_; (with_reducible refine (moultlaw12_rows.calls k (fun k_ => (P0_ k_ ∨ w.heap.size ≤ k_)) _ _ y576 t579 false _ ?side1 A4.out).mono ?_); (case side1 => exact Kd.N_V (HO578.out)); rintro e w61 ⟨v580, rfl, ho0, hb⟩; refine ⟨_, rfl, ?_⟩; have n0_ := Aside0.mk (Kd.V_elder' (by (with_reducible repeat (first | apply Kd.V_alloc | apply Kd.V_drewN | apply Kd.V_drew)); exact HO0.out) (Kd.N_base ho0) hb); have n1_ := Aside0.mk (Kd.N_elder' (by (with_reducible repeat (first | apply Kd.N_alloc | apply Kd.N_drewN | apply Kd.N_drew)); exact HO578.out) (Kd.N_base ho0) hb); have n2_ := Aside0.mk (Kd.N_lower (Kd.N_mono (ok' := fun k_ => (P0_ k_ ∨ w.heap.size ≤ k_)) ho0 (fun k_ hk_ => Or.elim hk_ (fun hs_ => hs_) (fun hn_ => (.inr (Nat.le_trans (below_size (by repeat (first | (with_reducible first | exact HB.out | apply below_alloc | apply pw_below_drewN | apply below_drew1) | exact HB.out))) hn_))))) (below_size (by repeat (first | (with_reducible first | exact HB.out | apply below_alloc | apply pw_below_drewN | apply below_drew1) | exact HB.out)))); have n3_ := Aside0.mk (below_step (by repeat (first | (with_reducible first | exact HB.out | apply below_alloc | apply pw_below_drewN | apply below_drew1) | exact HB.out)) hb); clear HO0; clear HO578; clear HB; have HO0 := n0_; have HO578 := n1_; have HO581 := n2_; have HB := n3_; clear n0_ n1_ n2_ n3_; (try clear hb); (try clear hb2); (try clear hk); (try clear hi); (try clear ho0)))
   go_ret
   exact ⟨by first | rfl | (simp [errW_none, errW_some] <;> rfl) | (simp [*, errW_none, errW_some] <;> rfl), by repeat (first | (with_reducible first | exact HB.out | apply below_alloc | apply pw_below_drewN | apply below_drew1) | exact HB.out)⟩
 ·replace c5 := Bool.eq_false_iff.mpr c5
  subst c5
  have H1 : (none) = some r := by rw [if_neg (show ¬ (false = true) by decide)] at H; exact H
  clear H
  have H := H1
  clear H1
  exact absurd H (by simp)

end Go.Proofs.Ythdoanbadhfhjaa.PAll
