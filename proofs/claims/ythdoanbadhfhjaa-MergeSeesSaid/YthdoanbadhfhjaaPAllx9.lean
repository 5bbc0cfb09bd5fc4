-- Laid by ownprint.py (a program of the session, in wip/tools), out of the translation: Lean checks it.
import Derived.Test.YthdoanbadhfhjaaPAllx0
import Derived.Test.YthdoanbadhfhjaaPAllx4
import Derived.Test.YthdoanbadhfhjaaPAllx6
import Derived.Test.YthdoanbadhfhjaaPAllx7
import Derived.Test.YthdoanbadhfhjaaPAllx8
import Derived.Test.YthdoanbadhfhjaaGv
import Derived.Test.YthdoanbadhfhjaaGw
namespace Go.Proofs.Ythdoanbadhfhjaa.PAll
open Go.RowKit Go.Proofs.YthdoanbadhfhjaaW.PrintWords Go.Proofs.YthdoanbadhfhjaaW.PrintLast Go.Proofs.YthdoanbadhfhjaaW.PrintMore
attribute [local go_sem] max2_int min2_int max_two min_two max_three min_three max_four min_four   -- for this text's walks alone
set_option linter.unusedVariables false
set_option linter.unusedSimpArgs false

/-! ### moultlaw12_shown: function 9 -/
def moultlaw12_shown.f (k : Nat)  : Option (Bool) := (moultlaw12_live.f (⟨#[97]⟩ : ByteArray) 3).bind fun bt244 => ((moultlaw12_live.f (⟨#[98]⟩ : ByteArray) 4).bind fun bt248 => ((some (([(⟨(⟨#[97]⟩ : ByteArray), 5, true, (⟨#[]⟩ : ByteArray)⟩ : S36), (⟨bt244.1, bt244.2.1, bt244.2.2.1, bt244.2.2.2⟩ : S36), (⟨bt248.1, bt248.2.1, bt248.2.2.1, bt248.2.2.2⟩ : S36)] : List (S36)) : List (S36))).bind fun y252 => ((merge_Visible.f k y252 9).bind fun t255 => (if 2 ≤ (y252.length : Int) then ((moultlaw12_same.f k t255 (y252.drop 2)).bind fun t263 => (if t263 = true then ((merge_Visible.f k y252 4).bind fun t264 => (if 1 ≤ (y252.length : Int) then ((moultlaw12_same.f k t264 (y252.drop 1)).bind fun t272 => (if t272 = true then ((merge_Merge.f k (([(y252.drop 2), (y252.take 2)] : List (List (S36))))).bind fun t286 => ((moultlaw12_same.f k t286 y252).bind fun t289 => ((merge_Thin.f k y252 ([] : List Int) false).bind fun t290 => (if 0 < (y252.length : Int) then (if 2 < (y252.length : Int) then ((moultlaw12_same.f k t290 (([(⟨(rd_T36 y252 0).f0, (rd_T36 y252 0).f1, (rd_T36 y252 0).f2, (rd_T36 y252 0).f3⟩ : S36), (⟨(rd_T36 y252 2).f0, (rd_T36 y252 2).f1, (rd_T36 y252 2).f2, (rd_T36 y252 2).f3⟩ : S36)] : List (S36)))).bind fun t298 => (if t298 = true then ((merge_Thin.f k y252 (([4] : List Int)) false).bind fun t302 => ((moultlaw12_same.f k t302 y252).bind fun t305 => (if t305 = true then ((merge_Thin.f k y252 ([] : List Int) true).bind fun t306 => ((moultlaw12_same.f k t306 (y252.drop 2)).bind fun t314 => (if t289 = true then (if t314 = true then ((merge_Sorted.f k y252).bind fun t315 => (if t315 = true then ((merge_Sorted.f k (([(⟨(rd_T36 y252 2).f0, (rd_T36 y252 2).f1, (rd_T36 y252 2).f2, (rd_T36 y252 2).f3⟩ : S36), (⟨(rd_T36 y252 0).f0, (rd_T36 y252 0).f1, (rd_T36 y252 0).f2, (rd_T36 y252 0).f3⟩ : S36)] : List (S36)))).bind fun t321 => (some (!t321))) else (none))) else (none)) else (none)))) else (none)))) else (none))) else (none)) else (none))))) else (none))) else (none))) else (none))) else (none)))))
theorem moultlaw12_shown.mono : ∀ k, LeO (moultlaw12_shown.f k ) (moultlaw12_shown.f (k + 1) ) := by
 intro  k
 unfold moultlaw12_shown.f
 repeat' first
   | (with_reducible exact merge_Merge.mono _ _)
   | (with_reducible exact merge_Sorted.mono _ _)
   | (with_reducible exact merge_Thin.mono _ _ _ _)
   | (with_reducible exact merge_Visible.mono _ _ _)
   | (with_reducible exact moultlaw12_same.mono _ _ _)
   | (with_reducible exact LeO.refl _)
   | (with_reducible exact LeO.none _)
   | (with_reducible refine LeO.ite ?_ ?_)
   | (with_reducible refine LeO.bind ?_ (fun _ => ?_))
   | exact merge_Merge.mono _ _
   | exact merge_Sorted.mono _ _
   | exact merge_Thin.mono _ _ _ _
   | exact merge_Visible.mono _ _ _
   | exact moultlaw12_same.mono _ _ _
   | exact LeO.none _
   | refine LeO.ite ?_ ?_
   | refine LeO.bind ?_ (fun _ => ?_)
def moultlaw12_shown.T2 : Bool × List (List Nat × List Nat) := (true, [([], []), ([0], [0]), ([], []), ([2], [2]), ([1, 3, 1], [1, 3]), ([4, 4], [4]), ([5], [5]), ([6, 5, 5], [5, 6]), ([5], [5]), ([8, 5], [5, 8]), ([7, 9, 7, 5], [5, 7, 9]), ([5, 10], [5, 10]), ([11, 10], [11]), ([12], [12]), ([13, 12], [12, 13]), ([12], [12]), ([15, 12], [12, 15]), ([14, 16, 12], [12, 14, 16]), ([17, 12, 12], [12, 17]), ([12], [12]), ([18, 19, 18, 12], [12, 18, 19]), ([12, 20], [12, 20]), ([21, 20, 0, 1, 2, 3, 4, 5, 6, 7, 8, 9, 10, 11, 12, 13, 14, 15, 16, 17, 18, 19, 20, 21], [21])])
def moultlaw12_shown.B2 : List Nat := [0, 1, 0, 4, 15, 31, 63, 127, 63, 319, 1023, 2047, 4095, 8191, 16383, 8191, 40959, 131071, 262143, 8191, 1048575, 2097151, 4194303]
theorem moultlaw12_shown.tab2 : rtab .any (opsOf Try.f9 2) = moultlaw12_shown.T2 := by kernel_rfl
theorem moultlaw12_shown.bits2 : waitsOk moultlaw12_shown.T2.2 moultlaw12_shown.B2 = true := by kernel_rfl
def moultlaw12_shown.T3 : Bool × List (List Nat × List Nat) := (true, [([], []), ([0], [0]), ([], []), ([2], [2]), ([3], [3]), ([], []), ([5], [5]), ([6], [6]), ([4, 7], [4, 7]), ([1, 8, 1], [1, 8]), ([9, 9], [9]), ([10], [10]), ([10], [10]), ([11, 12, 10, 10], [10, 11, 12]), ([10], [10]), ([13, 14, 13, 10], [10, 13, 14]), ([10, 15], [10, 15]), ([16, 15], [16]), ([17], [17]), ([18, 17, 17], [17, 18]), ([17], [17]), ([20, 17], [17, 20]), ([19, 21, 19, 17], [17, 19, 21]), ([17, 22], [17, 22]), ([23, 22, 0, 1, 2, 3, 4, 5, 6, 7, 8, 9, 10, 11, 12, 13, 14, 15, 16, 17, 18, 19, 20, 21, 22, 23], [23])])
def moultlaw12_shown.B3 : List Nat := [0, 1, 0, 4, 12, 0, 32, 96, 252, 511, 1023, 2047, 2047, 8191, 2047, 32767, 65535, 131071, 262143, 524287, 262143, 1310719, 4194303, 8388607, 16777215]
theorem moultlaw12_shown.tab3 : rtab .any (opsOf Try.f9 3) = moultlaw12_shown.T3 := by kernel_rfl
theorem moultlaw12_shown.bits3 : waitsOk moultlaw12_shown.T3.2 moultlaw12_shown.B3 = true := by kernel_rfl
def moultlaw12_shown.T4 : Bool × List (List Nat × List Nat) := (true, [([], []), ([0], [0]), ([1], [1]), ([1, 2], [1, 2]), ([3, 1], [3]), ([4], [4]), ([5, 4, 4], [4, 5]), ([4, 6], [4, 6]), ([7, 6], [7]), ([8], [8]), ([9, 8], [8, 9]), ([10, 8], [8, 10]), ([8], [8]), ([12, 8], [8, 12]), ([13, 8], [8, 13]), ([11, 14, 8], [8, 11, 14]), ([15, 8, 8], [8, 15]), ([16, 8], [8, 16]), ([8, 17], [8, 17]), ([18, 16, 0, 1, 2, 3, 4, 5, 6, 7, 8, 9, 10, 11, 12, 13, 14, 15, 16, 17, 18], [18])])
def moultlaw12_shown.B4 : List Nat := [0, 1, 3, 7, 15, 31, 63, 127, 255, 511, 1023, 2047, 511, 4607, 12799, 32767, 65535, 131071, 262143, 524287]
theorem moultlaw12_shown.tab4 : rtab .any (opsOf Try.f9 4) = moultlaw12_shown.T4 := by kernel_rfl
theorem moultlaw12_shown.bits4 : waitsOk moultlaw12_shown.T4.2 moultlaw12_shown.B4 = true := by kernel_rfl
set_option maxHeartbeats 8000000 in
set_option maxRecDepth 100000 in
theorem moultlaw12_shown.calls (k : Nat)  (r : Bool) (w : World) (h : moultlaw12_shown.f k  = some r) :
  Calls Try.prog 9 #[] w fun e w' => e = .returned (.bool r) ∧ Below w.heap.size w w' := by
 have hu36 := Try.underlying36
 have HB := Aside0.mk (Below.refl w.heap.size w)
 have H : ((moultlaw12_live.f (⟨#[97]⟩ : ByteArray) 3).bind fun bt244 => ((moultlaw12_live.f (⟨#[98]⟩ : ByteArray) 4).bind fun bt248 => ((some (([(⟨(⟨#[97]⟩ : ByteArray), 5, true, (⟨#[]⟩ : ByteArray)⟩ : S36), (⟨bt244.1, bt244.2.1, bt244.2.2.1, bt244.2.2.2⟩ : S36), (⟨bt248.1, bt248.2.1, bt248.2.2.1, bt248.2.2.2⟩ : S36)] : List (S36)) : List (S36))).bind fun y252 => ((merge_Visible.f k y252 9).bind fun t255 => (if 2 ≤ (y252.length : Int) then ((moultlaw12_same.f k t255 (y252.drop 2)).bind fun t263 => (if t263 = true then ((merge_Visible.f k y252 4).bind fun t264 => (if 1 ≤ (y252.length : Int) then ((moultlaw12_same.f k t264 (y252.drop 1)).bind fun t272 => (if t272 = true then ((merge_Merge.f k (([(y252.drop 2), (y252.take 2)] : List (List (S36))))).bind fun t286 => ((moultlaw12_same.f k t286 y252).bind fun t289 => ((merge_Thin.f k y252 ([] : List Int) false).bind fun t290 => (if 0 < (y252.length : Int) then (if 2 < (y252.length : Int) then ((moultlaw12_same.f k t290 (([(⟨(rd_T36 y252 0).f0, (rd_T36 y252 0).f1, (rd_T36 y252 0).f2, (rd_T36 y252 0).f3⟩ : S36), (⟨(rd_T36 y252 2).f0, (rd_T36 y252 2).f1, (rd_T36 y252 2).f2, (rd_T36 y252 2).f3⟩ : S36)] : List (S36)))).bind fun t298 => (if t298 = true then ((merge_Thin.f k y252 (([4] : List Int)) false).bind fun t302 => ((moultlaw12_same.f k t302 y252).bind fun t305 => (if t305 = true then ((merge_Thin.f k y252 ([] : List Int) true).bind fun t306 => ((moultlaw12_same.f k t306 (y252.drop 2)).bind fun t314 => (if t289 = true then (if t314 = true then ((merge_Sorted.f k y252).bind fun t315 => (if t315 = true then ((merge_Sorted.f k (([(⟨(rd_T36 y252 2).f0, (rd_T36 y252 2).f1, (rd_T36 y252 2).f2, (rd_T36 y252 2).f3⟩ : S36), (⟨(rd_T36 y252 0).f0, (rd_T36 y252 0).f1, (rd_T36 y252 0).f2, (rd_T36 y252 0).f3⟩ : S36)] : List (S36)))).bind fun t321 => (some (!t321))) else (none))) else (none)) else (none)))) else (none)))) else (none))) else (none)) else (none))))) else (none))) else (none))) else (none))) else (none)))))) = some r := h
 clear h
 replace H := Option.bind_eq_some_iff.mp H
 obtain ⟨⟨t244, t245, t246, t247⟩, A10, H⟩ := H
 replace H : ((moultlaw12_live.f (⟨#[98]⟩ : ByteArray) 4).bind fun bt248 => ((some (([(⟨(⟨#[97]⟩ : ByteArray), 5, true, (⟨#[]⟩ : ByteArray)⟩ : S36), (⟨t244, t245, t246, t247⟩ : S36), (⟨bt248.1, bt248.2.1, bt248.2.2.1, bt248.2.2.2⟩ : S36)] : List (S36)) : List (S36))).bind fun y252 => ((merge_Visible.f k y252 9).bind fun t255 => (if 2 ≤ (y252.length : Int) then ((moultlaw12_same.f k t255 (y252.drop 2)).bind fun t263 => (if t263 = true then ((merge_Visible.f k y252 4).bind fun t264 => (if 1 ≤ (y252.length : Int) then ((moultlaw12_same.f k t264 (y252.drop 1)).bind fun t272 => (if t272 = true then ((merge_Merge.f k (([(y252.drop 2), (y252.take 2)] : List (List (S36))))).bind fun t286 => ((moultlaw12_same.f k t286 y252).bind fun t289 => ((merge_Thin.f k y252 ([] : List Int) false).bind fun t290 => (if 0 < (y252.length : Int) then (if 2 < (y252.length : Int) then ((moultlaw12_same.f k t290 (([(⟨(rd_T36 y252 0).f0, (rd_T36 y252 0).f1, (rd_T36 y252 0).f2, (rd_T36 y252 0).f3⟩ : S36), (⟨(rd_T36 y252 2).f0, (rd_T36 y252 2).f1, (rd_T36 y252 2).f2, (rd_T36 y252 2).f3⟩ : S36)] : List (S36)))).bind fun t298 => (if t298 = true then ((merge_Thin.f k y252 (([4] : List Int)) false).bind fun t302 => ((moultlaw12_same.f k t302 y252).bind fun t305 => (if t305 = true then ((merge_Thin.f k y252 ([] : List Int) true).bind fun t306 => ((moultlaw12_same.f k t306 (y252.drop 2)).bind fun t314 => (if t289 = true then (if t314 = true then ((merge_Sorted.f k y252).bind fun t315 => (if t315 = true then ((merge_Sorted.f k (([(⟨(rd_T36 y252 2).f0, (rd_T36 y252 2).f1, (rd_T36 y252 2).f2, (rd_T36 y252 2).f3⟩ : S36), (⟨(rd_T36 y252 0).f0, (rd_T36 y252 0).f1, (rd_T36 y252 0).f2, (rd_T36 y252 0).f3⟩ : S36)] : List (S36)))).bind fun t321 => (some (!t321))) else (none))) else (none)) else (none)))) else (none)))) else (none))) else (none)) else (none))))) else (none))) else (none))) else (none))) else (none))))) = some r := H
 have A1 := Aside0.mk A10
 clear A10
 replace H := Option.bind_eq_some_iff.mp H
 obtain ⟨⟨t248, t249, t250, t251⟩, A20, H⟩ := H
 replace H : ((some (([(⟨(⟨#[97]⟩ : ByteArray), 5, true, (⟨#[]⟩ : ByteArray)⟩ : S36), (⟨t244, t245, t246, t247⟩ : S36), (⟨t248, t249, t250, t251⟩ : S36)] : List (S36)) : List (S36))).bind fun y252 => ((merge_Visible.f k y252 9).bind fun t255 => (if 2 ≤ (y252.length : Int) then ((moultlaw12_same.f k t255 (y252.drop 2)).bind fun t263 => (if t263 = true then ((merge_Visible.f k y252 4).bind fun t264 => (if 1 ≤ (y252.length : Int) then ((moultlaw12_same.f k t264 (y252.drop 1)).bind fun t272 => (if t272 = true then ((merge_Merge.f k (([(y252.drop 2), (y252.take 2)] : List (List (S36))))).bind fun t286 => ((moultlaw12_same.f k t286 y252).bind fun t289 => ((merge_Thin.f k y252 ([] : List Int) false).bind fun t290 => (if 0 < (y252.length : Int) then (if 2 < (y252.length : Int) then ((moultlaw12_same.f k t290 (([(⟨(rd_T36 y252 0).f0, (rd_T36 y252 0).f1, (rd_T36 y252 0).f2, (rd_T36 y252 0).f3⟩ : S36), (⟨(rd_T36 y252 2).f0, (rd_T36 y252 2).f1, (rd_T36 y252 2).f2, (rd_T36 y252 2).f3⟩ : S36)] : List (S36)))).bind fun t298 => (if t298 = true then ((merge_Thin.f k y252 (([4] : List Int)) false).bind fun t302 => ((moultlaw12_same.f k t302 y252).bind fun t305 => (if t305 = true then ((merge_Thin.f k y252 ([] : List Int) true).bind fun t306 => ((moultlaw12_same.f k t306 (y252.drop 2)).bind fun t314 => (if t289 = true then (if t314 = true then ((merge_Sorted.f k y252).bind fun t315 => (if t315 = true then ((merge_Sorted.f k (([(⟨(rd_T36 y252 2).f0, (rd_T36 y252 2).f1, (rd_T36 y252 2).f2, (rd_T36 y252 2).f3⟩ : S36), (⟨(rd_T36 y252 0).f0, (rd_T36 y252 0).f1, (rd_T36 y252 0).f2, (rd_T36 y252 0).f3⟩ : S36)] : List (S36)))).bind fun t321 => (some (!t321))) else (none))) else (none)) else (none)))) else (none)))) else (none))) else (none)) else (none))))) else (none))) else (none))) else (none))) else (none)))) = some r := H
 have A2 := Aside0.mk A20
 clear A20
 obtain ⟨y252, hy252⟩ : ∃ y_ : List (S36), y_ = (([(⟨(⟨#[97]⟩ : ByteArray), 5, true, (⟨#[]⟩ : ByteArray)⟩ : S36), (⟨t244, t245, t246, t247⟩ : S36), (⟨t248, t249, t250, t251⟩ : S36)] : List (S36))) := ⟨_, rfl⟩
 replace H : ((merge_Visible.f k y252 9).bind fun t255 => (if 2 ≤ (y252.length : Int) then ((moultlaw12_same.f k t255 (y252.drop 2)).bind fun t263 => (if t263 = true then ((merge_Visible.f k y252 4).bind fun t264 => (if 1 ≤ (y252.length : Int) then ((moultlaw12_same.f k t264 (y252.drop 1)).bind fun t272 => (if t272 = true then ((merge_Merge.f k (([(y252.drop 2), (y252.take 2)] : List (List (S36))))).bind fun t286 => ((moultlaw12_same.f k t286 y252).bind fun t289 => ((merge_Thin.f k y252 ([] : List Int) false).bind fun t290 => (if 0 < (y252.length : Int) then (if 2 < (y252.length : Int) then ((moultlaw12_same.f k t290 (([(⟨(rd_T36 y252 0).f0, (rd_T36 y252 0).f1, (rd_T36 y252 0).f2, (rd_T36 y252 0).f3⟩ : S36), (⟨(rd_T36 y252 2).f0, (rd_T36 y252 2).f1, (rd_T36 y252 2).f2, (rd_T36 y252 2).f3⟩ : S36)] : List (S36)))).bind fun t298 => (if t298 = true then ((merge_Thin.f k y252 (([4] : List Int)) false).bind fun t302 => ((moultlaw12_same.f k t302 y252).bind fun t305 => (if t305 = true then ((merge_Thin.f k y252 ([] : List Int) true).bind fun t306 => ((moultlaw12_same.f k t306 (y252.drop 2)).bind fun t314 => (if t289 = true then (if t314 = true then ((merge_Sorted.f k y252).bind fun t315 => (if t315 = true then ((merge_Sorted.f k (([(⟨(rd_T36 y252 2).f0, (rd_T36 y252 2).f1, (rd_T36 y252 2).f2, (rd_T36 y252 2).f3⟩ : S36), (⟨(rd_T36 y252 0).f0, (rd_T36 y252 0).f1, (rd_T36 y252 0).f2, (rd_T36 y252 0).f3⟩ : S36)] : List (S36)))).bind fun t321 => (some (!t321))) else (none))) else (none)) else (none)))) else (none)))) else (none))) else (none)) else (none))))) else (none))) else (none))) else (none))) else (none))) = some r := by first | (rw [hy252]; with_reducible exact H) | (have H2_ := (Option.bind_some _ _).symm.trans H; rw [hy252]; with_reducible exact H2_) | (have H2_ := (Option.bind_some _ _).symm.trans H; with_reducible exact H2_) | with_reducible exact H | (rw [hy252]; exact H) | exact H
 have Ny252 := Aside0.mk hy252
 clear hy252
 replace H := Option.bind_eq_some_iff.mp H
 obtain ⟨t255, A30, H⟩ := H
 replace H : (if 2 ≤ (y252.length : Int) then ((moultlaw12_same.f k t255 (y252.drop 2)).bind fun t263 => (if t263 = true then ((merge_Visible.f k y252 4).bind fun t264 => (if 1 ≤ (y252.length : Int) then ((moultlaw12_same.f k t264 (y252.drop 1)).bind fun t272 => (if t272 = true then ((merge_Merge.f k (([(y252.drop 2), (y252.take 2)] : List (List (S36))))).bind fun t286 => ((moultlaw12_same.f k t286 y252).bind fun t289 => ((merge_Thin.f k y252 ([] : List Int) false).bind fun t290 => (if 0 < (y252.length : Int) then (if 2 < (y252.length : Int) then ((moultlaw12_same.f k t290 (([(⟨(rd_T36 y252 0).f0, (rd_T36 y252 0).f1, (rd_T36 y252 0).f2, (rd_T36 y252 0).f3⟩ : S36), (⟨(rd_T36 y252 2).f0, (rd_T36 y252 2).f1, (rd_T36 y252 2).f2, (rd_T36 y252 2).f3⟩ : S36)] : List (S36)))).bind fun t298 => (if t298 = true then ((merge_Thin.f k y252 (([4] : List Int)) false).bind fun t302 => ((moultlaw12_same.f k t302 y252).bind fun t305 => (if t305 = true then ((merge_Thin.f k y252 ([] : List Int) true).bind fun t306 => ((moultlaw12_same.f k t306 (y252.drop 2)).bind fun t314 => (if t289 = true then (if t314 = true then ((merge_Sorted.f k y252).bind fun t315 => (if t315 = true then ((merge_Sorted.f k (([(⟨(rd_T36 y252 2).f0, (rd_T36 y252 2).f1, (rd_T36 y252 2).f2, (rd_T36 y252 2).f3⟩ : S36), (⟨(rd_T36 y252 0).f0, (rd_T36 y252 0).f1, (rd_T36 y252 0).f2, (rd_T36 y252 0).f3⟩ : S36)] : List (S36)))).bind fun t321 => (some (!t321))) else (none))) else (none)) else (none)))) else (none)))) else (none))) else (none)) else (none))))) else (none))) else (none))) else (none))) else (none)) = some r := H
 have A3 := Aside0.mk A30
 clear A30
 by_cases c4 : 2 ≤ (y252.length : Int)
 ·rw [if_pos c4] at H
  have c4b0 := eq_true c4
  have c4b1 : decide (2 ≤ (y252.length : Int)) = true := decide_eq_true c4
  clear c4
  obtain ⟨y258, hy258⟩ : ∃ y_ : List (S36), y_ = (y252.drop 2) := ⟨_, rfl⟩
  replace H : ((moultlaw12_same.f k t255 y258).bind fun t263 => (if t263 = true then ((merge_Visible.f k y252 4).bind fun t264 => (if 1 ≤ (y252.length : Int) then ((moultlaw12_same.f k t264 (y252.drop 1)).bind fun t272 => (if t272 = true then ((merge_Merge.f k (([(y252.drop 2), (y252.take 2)] : List (List (S36))))).bind fun t286 => ((moultlaw12_same.f k t286 y252).bind fun t289 => ((merge_Thin.f k y252 ([] : List Int) false).bind fun t290 => (if 0 < (y252.length : Int) then (if 2 < (y252.length : Int) then ((moultlaw12_same.f k t290 (([(⟨(rd_T36 y252 0).f0, (rd_T36 y252 0).f1, (rd_T36 y252 0).f2, (rd_T36 y252 0).f3⟩ : S36), (⟨(rd_T36 y252 2).f0, (rd_T36 y252 2).f1, (rd_T36 y252 2).f2, (rd_T36 y252 2).f3⟩ : S36)] : List (S36)))).bind fun t298 => (if t298 = true then ((merge_Thin.f k y252 (([4] : List Int)) false).bind fun t302 => ((moultlaw12_same.f k t302 y252).bind fun t305 => (if t305 = true then ((merge_Thin.f k y252 ([] : List Int) true).bind fun t306 => ((moultlaw12_same.f k t306 (y252.drop 2)).bind fun t314 => (if t289 = true then (if t314 = true then ((merge_Sorted.f k y252).bind fun t315 => (if t315 = true then ((merge_Sorted.f k (([(⟨(rd_T36 y252 2).f0, (rd_T36 y252 2).f1, (rd_T36 y252 2).f2, (rd_T36 y252 2).f3⟩ : S36), (⟨(rd_T36 y252 0).f0, (rd_T36 y252 0).f1, (rd_T36 y252 0).f2, (rd_T36 y252 0).f3⟩ : S36)] : List (S36)))).bind fun t321 => (some (!t321))) else (none))) else (none)) else (none)))) else (none)))) else (none))) else (none)) else (none))))) else (none))) else (none))) else (none))) = some r := by first | (rw [hy258]; with_reducible exact H) | (have H2_ := (Option.bind_some _ _).symm.trans H; rw [hy258]; with_reducible exact H2_) | (have H2_ := (Option.bind_some _ _).symm.trans H; with_reducible exact H2_) | with_reducible exact H | (rw [hy258]; exact H) | exact H
  have Ny258 := Aside0.mk hy258
  clear hy258
  replace H := Option.bind_eq_some_iff.mp H
  obtain ⟨t263, A50, H⟩ := H
  replace H : (if t263 = true then ((merge_Visible.f k y252 4).bind fun t264 => (if 1 ≤ (y252.length : Int) then ((moultlaw12_same.f k t264 (y252.drop 1)).bind fun t272 => (if t272 = true then ((merge_Merge.f k (([(y252.drop 2), (y252.take 2)] : List (List (S36))))).bind fun t286 => ((moultlaw12_same.f k t286 y252).bind fun t289 => ((merge_Thin.f k y252 ([] : List Int) false).bind fun t290 => (if 0 < (y252.length : Int) then (if 2 < (y252.length : Int) then ((moultlaw12_same.f k t290 (([(⟨(rd_T36 y252 0).f0, (rd_T36 y252 0).f1, (rd_T36 y252 0).f2, (rd_T36 y252 0).f3⟩ : S36), (⟨(rd_T36 y252 2).f0, (rd_T36 y252 2).f1, (rd_T36 y252 2).f2, (rd_T36 y252 2).f3⟩ : S36)] : List (S36)))).bind fun t298 => (if t298 = true then ((merge_Thin.f k y252 (([4] : List Int)) false).bind fun t302 => ((moultlaw12_same.f k t302 y252).bind fun t305 => (if t305 = true then ((merge_Thin.f k y252 ([] : List Int) true).bind fun t306 => ((moultlaw12_same.f k t306 (y252.drop 2)).bind fun t314 => (if t289 = true then (if t314 = true then ((merge_Sorted.f k y252).bind fun t315 => (if t315 = true then ((merge_Sorted.f k (([(⟨(rd_T36 y252 2).f0, (rd_T36 y252 2).f1, (rd_T36 y252 2).f2, (rd_T36 y252 2).f3⟩ : S36), (⟨(rd_T36 y252 0).f0, (rd_T36 y252 0).f1, (rd_T36 y252 0).f2, (rd_T36 y252 0).f3⟩ : S36)] : List (S36)))).bind fun t321 => (some (!t321))) else (none))) else (none)) else (none)))) else (none)))) else (none))) else (none)) else (none))))) else (none))) else (none))) else (none)) = some r := H
  have A5 := Aside0.mk A50
  clear A50
  by_cases c6 : t263 = true
  ·subst c6
   have H1 : ((merge_Visible.f k y252 4).bind fun t264 => (if 1 ≤ (y252.length : Int) then ((moultlaw12_same.f k t264 (y252.drop 1)).bind fun t272 => (if t272 = true then ((merge_Merge.f k (([(y252.drop 2), (y252.take 2)] : List (List (S36))))).bind fun t286 => ((moultlaw12_same.f k t286 y252).bind fun t289 => ((merge_Thin.f k y252 ([] : List Int) false).bind fun t290 => (if 0 < (y252.length : Int) then (if 2 < (y252.length : Int) then ((moultlaw12_same.f k t290 (([(⟨(rd_T36 y252 0).f0, (rd_T36 y252 0).f1, (rd_T36 y252 0).f2, (rd_T36 y252 0).f3⟩ : S36), (⟨(rd_T36 y252 2).f0, (rd_T36 y252 2).f1, (rd_T36 y252 2).f2, (rd_T36 y252 2).f3⟩ : S36)] : List (S36)))).bind fun t298 => (if t298 = true then ((merge_Thin.f k y252 (([4] : List Int)) false).bind fun t302 => ((moultlaw12_same.f k t302 y252).bind fun t305 => (if t305 = true then ((merge_Thin.f k y252 ([] : List Int) true).bind fun t306 => ((moultlaw12_same.f k t306 (y252.drop 2)).bind fun t314 => (if t289 = true then (if t314 = true then ((merge_Sorted.f k y252).bind fun t315 => (if t315 = true then ((merge_Sorted.f k (([(⟨(rd_T36 y252 2).f0, (rd_T36 y252 2).f1, (rd_T36 y252 2).f2, (rd_T36 y252 2).f3⟩ : S36), (⟨(rd_T36 y252 0).f0, (rd_T36 y252 0).f1, (rd_T36 y252 0).f2, (rd_T36 y252 0).f3⟩ : S36)] : List (S36)))).bind fun t321 => (some (!t321))) else (none))) else (none)) else (none)))) else (none)))) else (none))) else (none)) else (none))))) else (none))) else (none))) = some r := by rw [if_pos rfl] at H; exact H
   clear H
   have H := H1
   clear H1
   replace H := Option.bind_eq_some_iff.mp H
   obtain ⟨t264, A70, H⟩ := H
   replace H : (if 1 ≤ (y252.length : Int) then ((moultlaw12_same.f k t264 (y252.drop 1)).bind fun t272 => (if t272 = true then ((merge_Merge.f k (([(y252.drop 2), (y252.take 2)] : List (List (S36))))).bind fun t286 => ((moultlaw12_same.f k t286 y252).bind fun t289 => ((merge_Thin.f k y252 ([] : List Int) false).bind fun t290 => (if 0 < (y252.length : Int) then (if 2 < (y252.length : Int) then ((moultlaw12_same.f k t290 (([(⟨(rd_T36 y252 0).f0, (rd_T36 y252 0).f1, (rd_T36 y252 0).f2, (rd_T36 y252 0).f3⟩ : S36), (⟨(rd_T36 y252 2).f0, (rd_T36 y252 2).f1, (rd_T36 y252 2).f2, (rd_T36 y252 2).f3⟩ : S36)] : List (S36)))).bind fun t298 => (if t298 = true then ((merge_Thin.f k y252 (([4] : List Int)) false).bind fun t302 => ((moultlaw12_same.f k t302 y252).bind fun t305 => (if t305 = true then ((merge_Thin.f k y252 ([] : List Int) true).bind fun t306 => ((moultlaw12_same.f k t306 (y252.drop 2)).bind fun t314 => (if t289 = true then (if t314 = true then ((merge_Sorted.f k y252).bind fun t315 => (if t315 = true then ((merge_Sorted.f k (([(⟨(rd_T36 y252 2).f0, (rd_T36 y252 2).f1, (rd_T36 y252 2).f2, (rd_T36 y252 2).f3⟩ : S36), (⟨(rd_T36 y252 0).f0, (rd_T36 y252 0).f1, (rd_T36 y252 0).f2, (rd_T36 y252 0).f3⟩ : S36)] : List (S36)))).bind fun t321 => (some (!t321))) else (none))) else (none)) else (none)))) else (none)))) else (none))) else (none)) else (none))))) else (none))) else (none)) = some r := H
   have A7 := Aside0.mk A70
   clear A70
   by_cases c8 : 1 ≤ (y252.length : Int)
   ·rw [if_pos c8] at H
    have c8b0 := eq_true c8
    have c8b1 : decide (1 ≤ (y252.length : Int)) = true := decide_eq_true c8
    clear c8
    obtain ⟨y267, hy267⟩ : ∃ y_ : List (S36), y_ = (y252.drop 1) := ⟨_, rfl⟩
    replace H : ((moultlaw12_same.f k t264 y267).bind fun t272 => (if t272 = true then ((merge_Merge.f k (([(y252.drop 2), (y252.take 2)] : List (List (S36))))).bind fun t286 => ((moultlaw12_same.f k t286 y252).bind fun t289 => ((merge_Thin.f k y252 ([] : List Int) false).bind fun t290 => (if 0 < (y252.length : Int) then (if 2 < (y252.length : Int) then ((moultlaw12_same.f k t290 (([(⟨(rd_T36 y252 0).f0, (rd_T36 y252 0).f1, (rd_T36 y252 0).f2, (rd_T36 y252 0).f3⟩ : S36), (⟨(rd_T36 y252 2).f0, (rd_T36 y252 2).f1, (rd_T36 y252 2).f2, (rd_T36 y252 2).f3⟩ : S36)] : List (S36)))).bind fun t298 => (if t298 = true then ((merge_Thin.f k y252 (([4] : List Int)) false).bind fun t302 => ((moultlaw12_same.f k t302 y252).bind fun t305 => (if t305 = true then ((merge_Thin.f k y252 ([] : List Int) true).bind fun t306 => ((moultlaw12_same.f k t306 (y252.drop 2)).bind fun t314 => (if t289 = true then (if t314 = true then ((merge_Sorted.f k y252).bind fun t315 => (if t315 = true then ((merge_Sorted.f k (([(⟨(rd_T36 y252 2).f0, (rd_T36 y252 2).f1, (rd_T36 y252 2).f2, (rd_T36 y252 2).f3⟩ : S36), (⟨(rd_T36 y252 0).f0, (rd_T36 y252 0).f1, (rd_T36 y252 0).f2, (rd_T36 y252 0).f3⟩ : S36)] : List (S36)))).bind fun t321 => (some (!t321))) else (none))) else (none)) else (none)))) else (none)))) else (none))) else (none)) else (none))))) else (none))) = some r := by first | (rw [hy267]; with_reducible exact H) | (have H2_ := (Option.bind_some _ _).symm.trans H; rw [hy267]; with_reducible exact H2_) | (have H2_ := (Option.bind_some _ _).symm.trans H; with_reducible exact H2_) | with_reducible exact H | (rw [hy267]; exact H) | exact H
    have Ny267 := Aside0.mk hy267
    clear hy267
    replace H := Option.bind_eq_some_iff.mp H
    obtain ⟨t272, A90, H⟩ := H
    replace H : (if t272 = true then ((merge_Merge.f k (([(y252.drop 2), (y252.take 2)] : List (List (S36))))).bind fun t286 => ((moultlaw12_same.f k t286 y252).bind fun t289 => ((merge_Thin.f k y252 ([] : List Int) false).bind fun t290 => (if 0 < (y252.length : Int) then (if 2 < (y252.length : Int) then ((moultlaw12_same.f k t290 (([(⟨(rd_T36 y252 0).f0, (rd_T36 y252 0).f1, (rd_T36 y252 0).f2, (rd_T36 y252 0).f3⟩ : S36), (⟨(rd_T36 y252 2).f0, (rd_T36 y252 2).f1, (rd_T36 y252 2).f2, (rd_T36 y252 2).f3⟩ : S36)] : List (S36)))).bind fun t298 => (if t298 = true then ((merge_Thin.f k y252 (([4] : List Int)) false).bind fun t302 => ((moultlaw12_same.f k t302 y252).bind fun t305 => (if t305 = true then ((merge_Thin.f k y252 ([] : List Int) true).bind fun t306 => ((moultlaw12_same.f k t306 (y252.drop 2)).bind fun t314 => (if t289 = true then (if t314 = true then ((merge_Sorted.f k y252).bind fun t315 => (if t315 = true then ((merge_Sorted.f k (([(⟨(rd_T36 y252 2).f0, (rd_T36 y252 2).f1, (rd_T36 y252 2).f2, (rd_T36 y252 2).f3⟩ : S36), (⟨(rd_T36 y252 0).f0, (rd_T36 y252 0).f1, (rd_T36 y252 0).f2, (rd_T36 y252 0).f3⟩ : S36)] : List (S36)))).bind fun t321 => (some (!t321))) else (none))) else (none)) else (none)))) else (none)))) else (none))) else (none)) else (none))))) else (none)) = some r := H
    have A9 := Aside0.mk A90
    clear A90
    by_cases c10 : t272 = true
    ·subst c10
     have H1 : ((merge_Merge.f k (([(y252.drop 2), (y252.take 2)] : List (List (S36))))).bind fun t286 => ((moultlaw12_same.f k t286 y252).bind fun t289 => ((merge_Thin.f k y252 ([] : List Int) false).bind fun t290 => (if 0 < (y252.length : Int) then (if 2 < (y252.length : Int) then ((moultlaw12_same.f k t290 (([(⟨(rd_T36 y252 0).f0, (rd_T36 y252 0).f1, (rd_T36 y252 0).f2, (rd_T36 y252 0).f3⟩ : S36), (⟨(rd_T36 y252 2).f0, (rd_T36 y252 2).f1, (rd_T36 y252 2).f2, (rd_T36 y252 2).f3⟩ : S36)] : List (S36)))).bind fun t298 => (if t298 = true then ((merge_Thin.f k y252 (([4] : List Int)) false).bind fun t302 => ((moultlaw12_same.f k t302 y252).bind fun t305 => (if t305 = true then ((merge_Thin.f k y252 ([] : List Int) true).bind fun t306 => ((moultlaw12_same.f k t306 (y252.drop 2)).bind fun t314 => (if t289 = true then (if t314 = true then ((merge_Sorted.f k y252).bind fun t315 => (if t315 = true then ((merge_Sorted.f k (([(⟨(rd_T36 y252 2).f0, (rd_T36 y252 2).f1, (rd_T36 y252 2).f2, (rd_T36 y252 2).f3⟩ : S36), (⟨(rd_T36 y252 0).f0, (rd_T36 y252 0).f1, (rd_T36 y252 0).f2, (rd_T36 y252 0).f3⟩ : S36)] : List (S36)))).bind fun t321 => (some (!t321))) else (none))) else (none)) else (none)))) else (none)))) else (none))) else (none)) else (none))))) = some r := by rw [if_pos rfl] at H; exact H
     clear H
     have H := H1
     clear H1
     have c11b0 := eq_true (of_decide_eq_true (by first | (with_reducible assumption) | assumption) : 2 ≤ (y252.length : Int))
     obtain ⟨y273, hy273⟩ : ∃ y_ : List (S36), y_ = (y252.drop 2) := ⟨_, rfl⟩
     replace H : ((merge_Merge.f k (([y273, (y252.take 2)] : List (List (S36))))).bind fun t286 => ((moultlaw12_same.f k t286 y252).bind fun t289 => ((merge_Thin.f k y252 ([] : List Int) false).bind fun t290 => (if 0 < (y252.length : Int) then (if 2 < (y252.length : Int) then ((moultlaw12_same.f k t290 (([(⟨(rd_T36 y252 0).f0, (rd_T36 y252 0).f1, (rd_T36 y252 0).f2, (rd_T36 y252 0).f3⟩ : S36), (⟨(rd_T36 y252 2).f0, (rd_T36 y252 2).f1, (rd_T36 y252 2).f2, (rd_T36 y252 2).f3⟩ : S36)] : List (S36)))).bind fun t298 => (if t298 = true then ((merge_Thin.f k y252 (([4] : List Int)) false).bind fun t302 => ((moultlaw12_same.f k t302 y252).bind fun t305 => (if t305 = true then ((merge_Thin.f k y252 ([] : List Int) true).bind fun t306 => ((moultlaw12_same.f k t306 (y252.drop 2)).bind fun t314 => (if t289 = true then (if t314 = true then ((merge_Sorted.f k y252).bind fun t315 => (if t315 = true then ((merge_Sorted.f k (([(⟨(rd_T36 y252 2).f0, (rd_T36 y252 2).f1, (rd_T36 y252 2).f2, (rd_T36 y252 2).f3⟩ : S36), (⟨(rd_T36 y252 0).f0, (rd_T36 y252 0).f1, (rd_T36 y252 0).f2, (rd_T36 y252 0).f3⟩ : S36)] : List (S36)))).bind fun t321 => (some (!t321))) else (none))) else (none)) else (none)))) else (none)))) else (none))) else (none)) else (none))))) = some r := by first | (rw [hy273]; with_reducible exact H) | (have H2_ := (Option.bind_some _ _).symm.trans H; rw [hy273]; with_reducible exact H2_) | (have H2_ := (Option.bind_some _ _).symm.trans H; with_reducible exact H2_) | with_reducible exact H | (rw [hy273]; exact H) | exact H
     have Ny273 := Aside0.mk hy273
     clear hy273
     have c12b0 := eq_true (of_decide_eq_true (by first | (with_reducible assumption) | assumption) : 2 ≤ (y252.length : Int))
     obtain ⟨y278, hy278⟩ : ∃ y_ : List (S36), y_ = (y252.take 2) := ⟨_, rfl⟩
     replace H : ((merge_Merge.f k (([y273, y278] : List (List (S36))))).bind fun t286 => ((moultlaw12_same.f k t286 y252).bind fun t289 => ((merge_Thin.f k y252 ([] : List Int) false).bind fun t290 => (if 0 < (y252.length : Int) then (if 2 < (y252.length : Int) then ((moultlaw12_same.f k t290 (([(⟨(rd_T36 y252 0).f0, (rd_T36 y252 0).f1, (rd_T36 y252 0).f2, (rd_T36 y252 0).f3⟩ : S36), (⟨(rd_T36 y252 2).f0, (rd_T36 y252 2).f1, (rd_T36 y252 2).f2, (rd_T36 y252 2).f3⟩ : S36)] : List (S36)))).bind fun t298 => (if t298 = true then ((merge_Thin.f k y252 (([4] : List Int)) false).bind fun t302 => ((moultlaw12_same.f k t302 y252).bind fun t305 => (if t305 = true then ((merge_Thin.f k y252 ([] : List Int) true).bind fun t306 => ((moultlaw12_same.f k t306 (y252.drop 2)).bind fun t314 => (if t289 = true then (if t314 = true then ((merge_Sorted.f k y252).bind fun t315 => (if t315 = true then ((merge_Sorted.f k (([(⟨(rd_T36 y252 2).f0, (rd_T36 y252 2).f1, (rd_T36 y252 2).f2, (rd_T36 y252 2).f3⟩ : S36), (⟨(rd_T36 y252 0).f0, (rd_T36 y252 0).f1, (rd_T36 y252 0).f2, (rd_T36 y252 0).f3⟩ : S36)] : List (S36)))).bind fun t321 => (some (!t321))) else (none))) else (none)) else (none)))) else (none)))) else (none))) else (none)) else (none))))) = some r := by first | (rw [hy278]; with_reducible exact H) | (have H2_ := (Option.bind_some _ _).symm.trans H; rw [hy278]; with_reducible exact H2_) | (have H2_ := (Option.bind_some _ _).symm.trans H; with_reducible exact H2_) | with_reducible exact H | (rw [hy278]; exact H) | exact H
     have Ny278 := Aside0.mk hy278
     clear hy278
     obtain ⟨y283, hy283⟩ : ∃ y_ : List (List (S36)), y_ = (([y273, y278] : List (List (S36)))) := ⟨_, rfl⟩
     replace H : ((merge_Merge.f k y283).bind fun t286 => ((moultlaw12_same.f k t286 y252).bind fun t289 => ((merge_Thin.f k y252 ([] : List Int) false).bind fun t290 => (if 0 < (y252.length : Int) then (if 2 < (y252.length : Int) then ((moultlaw12_same.f k t290 (([(⟨(rd_T36 y252 0).f0, (rd_T36 y252 0).f1, (rd_T36 y252 0).f2, (rd_T36 y252 0).f3⟩ : S36), (⟨(rd_T36 y252 2).f0, (rd_T36 y252 2).f1, (rd_T36 y252 2).f2, (rd_T36 y252 2).f3⟩ : S36)] : List (S36)))).bind fun t298 => (if t298 = true then ((merge_Thin.f k y252 (([4] : List Int)) false).bind fun t302 => ((moultlaw12_same.f k t302 y252).bind fun t305 => (if t305 = true then ((merge_Thin.f k y252 ([] : List Int) true).bind fun t306 => ((moultlaw12_same.f k t306 (y252.drop 2)).bind fun t314 => (if t289 = true then (if t314 = true then ((merge_Sorted.f k y252).bind fun t315 => (if t315 = true then ((merge_Sorted.f k (([(⟨(rd_T36 y252 2).f0, (rd_T36 y252 2).f1, (rd_T36 y252 2).f2, (rd_T36 y252 2).f3⟩ : S36), (⟨(rd_T36 y252 0).f0, (rd_T36 y252 0).f1, (rd_T36 y252 0).f2, (rd_T36 y252 0).f3⟩ : S36)] : List (S36)))).bind fun t321 => (some (!t321))) else (none))) else (none)) else (none)))) else (none)))) else (none))) else (none)) else (none))))) = some r := by first | (rw [hy283]; with_reducible exact H) | (have H2_ := (Option.bind_some _ _).symm.trans H; rw [hy283]; with_reducible exact H2_) | (have H2_ := (Option.bind_some _ _).symm.trans H; with_reducible exact H2_) | with_reducible exact H | (rw [hy283]; exact H) | exact H
     have Ny283 := Aside0.mk hy283
     clear hy283
     replace H := Option.bind_eq_some_iff.mp H
     obtain ⟨t286, A130, H⟩ := H
     replace H : ((moultlaw12_same.f k t286 y252).bind fun t289 => ((merge_Thin.f k y252 ([] : List Int) false).bind fun t290 => (if 0 < (y252.length : Int) then (if 2 < (y252.length : Int) then ((moultlaw12_same.f k t290 (([(⟨(rd_T36 y252 0).f0, (rd_T36 y252 0).f1, (rd_T36 y252 0).f2, (rd_T36 y252 0).f3⟩ : S36), (⟨(rd_T36 y252 2).f0, (rd_T36 y252 2).f1, (rd_T36 y252 2).f2, (rd_T36 y252 2).f3⟩ : S36)] : List (S36)))).bind fun t298 => (if t298 = true then ((merge_Thin.f k y252 (([4] : List Int)) false).bind fun t302 => ((moultlaw12_same.f k t302 y252).bind fun t305 => (if t305 = true then ((merge_Thin.f k y252 ([] : List Int) true).bind fun t306 => ((moultlaw12_same.f k t306 (y252.drop 2)).bind fun t314 => (if t289 = true then (if t314 = true then ((merge_Sorted.f k y252).bind fun t315 => (if t315 = true then ((merge_Sorted.f k (([(⟨(rd_T36 y252 2).f0, (rd_T36 y252 2).f1, (rd_T36 y252 2).f2, (rd_T36 y252 2).f3⟩ : S36), (⟨(rd_T36 y252 0).f0, (rd_T36 y252 0).f1, (rd_T36 y252 0).f2, (rd_T36 y252 0).f3⟩ : S36)] : List (S36)))).bind fun t321 => (some (!t321))) else (none))) else (none)) else (none)))) else (none)))) else (none))) else (none)) else (none)))) = some r := H
     have A13 := Aside0.mk A130
     clear A130
     replace H := Option.bind_eq_some_iff.mp H
     obtain ⟨t289, A140, H⟩ := H
     replace H : ((merge_Thin.f k y252 ([] : List Int) false).bind fun t290 => (if 0 < (y252.length : Int) then (if 2 < (y252.length : Int) then ((moultlaw12_same.f k t290 (([(⟨(rd_T36 y252 0).f0, (rd_T36 y252 0).f1, (rd_T36 y252 0).f2, (rd_T36 y252 0).f3⟩ : S36), (⟨(rd_T36 y252 2).f0, (rd_T36 y252 2).f1, (rd_T36 y252 2).f2, (rd_T36 y252 2).f3⟩ : S36)] : List (S36)))).bind fun t298 => (if t298 = true then ((merge_Thin.f k y252 (([4] : List Int)) false).bind fun t302 => ((moultlaw12_same.f k t302 y252).bind fun t305 => (if t305 = true then ((merge_Thin.f k y252 ([] : List Int) true).bind fun t306 => ((moultlaw12_same.f k t306 (y252.drop 2)).bind fun t314 => (if t289 = true then (if t314 = true then ((merge_Sorted.f k y252).bind fun t315 => (if t315 = true then ((merge_Sorted.f k (([(⟨(rd_T36 y252 2).f0, (rd_T36 y252 2).f1, (rd_T36 y252 2).f2, (rd_T36 y252 2).f3⟩ : S36), (⟨(rd_T36 y252 0).f0, (rd_T36 y252 0).f1, (rd_T36 y252 0).f2, (rd_T36 y252 0).f3⟩ : S36)] : List (S36)))).bind fun t321 => (some (!t321))) else (none))) else (none)) else (none)))) else (none)))) else (none))) else (none)) else (none))) = some r := H
     have A14 := Aside0.mk A140
     clear A140
     replace H := Option.bind_eq_some_iff.mp H
     obtain ⟨t290, A150, H⟩ := H
     replace H : (if 0 < (y252.length : Int) then (if 2 < (y252.length : Int) then ((moultlaw12_same.f k t290 (([(⟨(rd_T36 y252 0).f0, (rd_T36 y252 0).f1, (rd_T36 y252 0).f2, (rd_T36 y252 0).f3⟩ : S36), (⟨(rd_T36 y252 2).f0, (rd_T36 y252 2).f1, (rd_T36 y252 2).f2, (rd_T36 y252 2).f3⟩ : S36)] : List (S36)))).bind fun t298 => (if t298 = true then ((merge_Thin.f k y252 (([4] : List Int)) false).bind fun t302 => ((moultlaw12_same.f k t302 y252).bind fun t305 => (if t305 = true then ((merge_Thin.f k y252 ([] : List Int) true).bind fun t306 => ((moultlaw12_same.f k t306 (y252.drop 2)).bind fun t314 => (if t289 = true then (if t314 = true then ((merge_Sorted.f k y252).bind fun t315 => (if t315 = true then ((merge_Sorted.f k (([(⟨(rd_T36 y252 2).f0, (rd_T36 y252 2).f1, (rd_T36 y252 2).f2, (rd_T36 y252 2).f3⟩ : S36), (⟨(rd_T36 y252 0).f0, (rd_T36 y252 0).f1, (rd_T36 y252 0).f2, (rd_T36 y252 0).f3⟩ : S36)] : List (S36)))).bind fun t321 => (some (!t321))) else (none))) else (none)) else (none)))) else (none)))) else (none))) else (none)) else (none)) = some r := H
     have A15 := Aside0.mk A150
     clear A150
     by_cases c16 : 0 < (y252.length : Int)
     ·rw [if_pos c16] at H
      have c16b0 : decide (0 < (y252.length : Int)) = true := decide_eq_true c16
      have c16b1 : decide (0 < y252.length) = true := decide_eq_true (by omega)
      clear c16
      by_cases c17 : 2 < (y252.length : Int)
      ·rw [if_pos c17] at H
       have c17b0 : decide (2 < (y252.length : Int)) = true := decide_eq_true c17
       have c17b1 : decide (2 < y252.length) = true := decide_eq_true (by omega)
       clear c17
       obtain ⟨y295, hy295⟩ : ∃ y_ : List (S36), y_ = (([(⟨(rd_T36 y252 0).f0, (rd_T36 y252 0).f1, (rd_T36 y252 0).f2, (rd_T36 y252 0).f3⟩ : S36), (⟨(rd_T36 y252 2).f0, (rd_T36 y252 2).f1, (rd_T36 y252 2).f2, (rd_T36 y252 2).f3⟩ : S36)] : List (S36))) := ⟨_, rfl⟩
       replace H : ((moultlaw12_same.f k t290 y295).bind fun t298 => (if t298 = true then ((merge_Thin.f k y252 (([4] : List Int)) false).bind fun t302 => ((moultlaw12_same.f k t302 y252).bind fun t305 => (if t305 = true then ((merge_Thin.f k y252 ([] : List Int) true).bind fun t306 => ((moultlaw12_same.f k t306 (y252.drop 2)).bind fun t314 => (if t289 = true then (if t314 = true then ((merge_Sorted.f k y252).bind fun t315 => (if t315 = true then ((merge_Sorted.f k (([(⟨(rd_T36 y252 2).f0, (rd_T36 y252 2).f1, (rd_T36 y252 2).f2, (rd_T36 y252 2).f3⟩ : S36), (⟨(rd_T36 y252 0).f0, (rd_T36 y252 0).f1, (rd_T36 y252 0).f2, (rd_T36 y252 0).f3⟩ : S36)] : List (S36)))).bind fun t321 => (some (!t321))) else (none))) else (none)) else (none)))) else (none)))) else (none))) = some r := by first | (rw [hy295]; with_reducible exact H) | (have H2_ := (Option.bind_some _ _).symm.trans H; rw [hy295]; with_reducible exact H2_) | (have H2_ := (Option.bind_some _ _).symm.trans H; with_reducible exact H2_) | with_reducible exact H | (rw [hy295]; exact H) | exact H
       have Ny295 := Aside0.mk hy295
       clear hy295
       replace H := Option.bind_eq_some_iff.mp H
       obtain ⟨t298, A180, H⟩ := H
       replace H : (if t298 = true then ((merge_Thin.f k y252 (([4] : List Int)) false).bind fun t302 => ((moultlaw12_same.f k t302 y252).bind fun t305 => (if t305 = true then ((merge_Thin.f k y252 ([] : List Int) true).bind fun t306 => ((moultlaw12_same.f k t306 (y252.drop 2)).bind fun t314 => (if t289 = true then (if t314 = true then ((merge_Sorted.f k y252).bind fun t315 => (if t315 = true then ((merge_Sorted.f k (([(⟨(rd_T36 y252 2).f0, (rd_T36 y252 2).f1, (rd_T36 y252 2).f2, (rd_T36 y252 2).f3⟩ : S36), (⟨(rd_T36 y252 0).f0, (rd_T36 y252 0).f1, (rd_T36 y252 0).f2, (rd_T36 y252 0).f3⟩ : S36)] : List (S36)))).bind fun t321 => (some (!t321))) else (none))) else (none)) else (none)))) else (none)))) else (none)) = some r := H
       have A18 := Aside0.mk A180
       clear A180
       by_cases c19 : t298 = true
       ·subst c19
        have H1 : ((merge_Thin.f k y252 (([4] : List Int)) false).bind fun t302 => ((moultlaw12_same.f k t302 y252).bind fun t305 => (if t305 = true then ((merge_Thin.f k y252 ([] : List Int) true).bind fun t306 => ((moultlaw12_same.f k t306 (y252.drop 2)).bind fun t314 => (if t289 = true then (if t314 = true then ((merge_Sorted.f k y252).bind fun t315 => (if t315 = true then ((merge_Sorted.f k (([(⟨(rd_T36 y252 2).f0, (rd_T36 y252 2).f1, (rd_T36 y252 2).f2, (rd_T36 y252 2).f3⟩ : S36), (⟨(rd_T36 y252 0).f0, (rd_T36 y252 0).f1, (rd_T36 y252 0).f2, (rd_T36 y252 0).f3⟩ : S36)] : List (S36)))).bind fun t321 => (some (!t321))) else (none))) else (none)) else (none)))) else (none)))) = some r := by rw [if_pos rfl] at H; exact H
        clear H
        have H := H1
        clear H1
        obtain ⟨y299, hy299⟩ : ∃ y_ : List Int, y_ = (([4] : List Int)) := ⟨_, rfl⟩
        replace H : ((merge_Thin.f k y252 y299 false).bind fun t302 => ((moultlaw12_same.f k t302 y252).bind fun t305 => (if t305 = true then ((merge_Thin.f k y252 ([] : List Int) true).bind fun t306 => ((moultlaw12_same.f k t306 (y252.drop 2)).bind fun t314 => (if t289 = true then (if t314 = true then ((merge_Sorted.f k y252).bind fun t315 => (if t315 = true then ((merge_Sorted.f k (([(⟨(rd_T36 y252 2).f0, (rd_T36 y252 2).f1, (rd_T36 y252 2).f2, (rd_T36 y252 2).f3⟩ : S36), (⟨(rd_T36 y252 0).f0, (rd_T36 y252 0).f1, (rd_T36 y252 0).f2, (rd_T36 y252 0).f3⟩ : S36)] : List (S36)))).bind fun t321 => (some (!t321))) else (none))) else (none)) else (none)))) else (none)))) = some r := by first | (rw [hy299]; with_reducible exact H) | (have H2_ := (Option.bind_some _ _).symm.trans H; rw [hy299]; with_reducible exact H2_) | (have H2_ := (Option.bind_some _ _).symm.trans H; with_reducible exact H2_) | with_reducible exact H | (rw [hy299]; exact H) | exact H
        have Ny299 := Aside0.mk hy299
        clear hy299
        replace H := Option.bind_eq_some_iff.mp H
        obtain ⟨t302, A200, H⟩ := H
        replace H : ((moultlaw12_same.f k t302 y252).bind fun t305 => (if t305 = true then ((merge_Thin.f k y252 ([] : List Int) true).bind fun t306 => ((moultlaw12_same.f k t306 (y252.drop 2)).bind fun t314 => (if t289 = true then (if t314 = true then ((merge_Sorted.f k y252).bind fun t315 => (if t315 = true then ((merge_Sorted.f k (([(⟨(rd_T36 y252 2).f0, (rd_T36 y252 2).f1, (rd_T36 y252 2).f2, (rd_T36 y252 2).f3⟩ : S36), (⟨(rd_T36 y252 0).f0, (rd_T36 y252 0).f1, (rd_T36 y252 0).f2, (rd_T36 y252 0).f3⟩ : S36)] : List (S36)))).bind fun t321 => (some (!t321))) else (none))) else (none)) else (none)))) else (none))) = some r := H
        have A20 := Aside0.mk A200
        clear A200
        replace H := Option.bind_eq_some_iff.mp H
        obtain ⟨t305, A210, H⟩ := H
        replace H : (if t305 = true then ((merge_Thin.f k y252 ([] : List Int) true).bind fun t306 => ((moultlaw12_same.f k t306 (y252.drop 2)).bind fun t314 => (if t289 = true then (if t314 = true then ((merge_Sorted.f k y252).bind fun t315 => (if t315 = true then ((merge_Sorted.f k (([(⟨(rd_T36 y252 2).f0, (rd_T36 y252 2).f1, (rd_T36 y252 2).f2, (rd_T36 y252 2).f3⟩ : S36), (⟨(rd_T36 y252 0).f0, (rd_T36 y252 0).f1, (rd_T36 y252 0).f2, (rd_T36 y252 0).f3⟩ : S36)] : List (S36)))).bind fun t321 => (some (!t321))) else (none))) else (none)) else (none)))) else (none)) = some r := H
        have A21 := Aside0.mk A210
        clear A210
        by_cases c22 : t305 = true
        ·subst c22
         have H1 : ((merge_Thin.f k y252 ([] : List Int) true).bind fun t306 => ((moultlaw12_same.f k t306 (y252.drop 2)).bind fun t314 => (if t289 = true then (if t314 = true then ((merge_Sorted.f k y252).bind fun t315 => (if t315 = true then ((merge_Sorted.f k (([(⟨(rd_T36 y252 2).f0, (rd_T36 y252 2).f1, (rd_T36 y252 2).f2, (rd_T36 y252 2).f3⟩ : S36), (⟨(rd_T36 y252 0).f0, (rd_T36 y252 0).f1, (rd_T36 y252 0).f2, (rd_T36 y252 0).f3⟩ : S36)] : List (S36)))).bind fun t321 => (some (!t321))) else (none))) else (none)) else (none)))) = some r := by rw [if_pos rfl] at H; exact H
         clear H
         have H := H1
         clear H1
         replace H := Option.bind_eq_some_iff.mp H
         obtain ⟨t306, A230, H⟩ := H
         replace H : ((moultlaw12_same.f k t306 (y252.drop 2)).bind fun t314 => (if t289 = true then (if t314 = true then ((merge_Sorted.f k y252).bind fun t315 => (if t315 = true then ((merge_Sorted.f k (([(⟨(rd_T36 y252 2).f0, (rd_T36 y252 2).f1, (rd_T36 y252 2).f2, (rd_T36 y252 2).f3⟩ : S36), (⟨(rd_T36 y252 0).f0, (rd_T36 y252 0).f1, (rd_T36 y252 0).f2, (rd_T36 y252 0).f3⟩ : S36)] : List (S36)))).bind fun t321 => (some (!t321))) else (none))) else (none)) else (none))) = some r := H
         have A23 := Aside0.mk A230
         clear A230
         have c24b0 := eq_true (of_decide_eq_true (by first | (with_reducible assumption) | assumption) : 2 ≤ (y252.length : Int))
         obtain ⟨y309, hy309⟩ : ∃ y_ : List (S36), y_ = (y252.drop 2) := ⟨_, rfl⟩
         replace H : ((moultlaw12_same.f k t306 y309).bind fun t314 => (if t289 = true then (if t314 = true then ((merge_Sorted.f k y252).bind fun t315 => (if t315 = true then ((merge_Sorted.f k (([(⟨(rd_T36 y252 2).f0, (rd_T36 y252 2).f1, (rd_T36 y252 2).f2, (rd_T36 y252 2).f3⟩ : S36), (⟨(rd_T36 y252 0).f0, (rd_T36 y252 0).f1, (rd_T36 y252 0).f2, (rd_T36 y252 0).f3⟩ : S36)] : List (S36)))).bind fun t321 => (some (!t321))) else (none))) else (none)) else (none))) = some r := by first | (rw [hy309]; with_reducible exact H) | (have H2_ := (Option.bind_some _ _).symm.trans H; rw [hy309]; with_reducible exact H2_) | (have H2_ := (Option.bind_some _ _).symm.trans H; with_reducible exact H2_) | with_reducible exact H | (rw [hy309]; exact H) | exact H
         have Ny309 := Aside0.mk hy309
         clear hy309
         replace H := Option.bind_eq_some_iff.mp H
         obtain ⟨t314, A250, H⟩ := H
         replace H : (if t289 = true then (if t314 = true then ((merge_Sorted.f k y252).bind fun t315 => (if t315 = true then ((merge_Sorted.f k (([(⟨(rd_T36 y252 2).f0, (rd_T36 y252 2).f1, (rd_T36 y252 2).f2, (rd_T36 y252 2).f3⟩ : S36), (⟨(rd_T36 y252 0).f0, (rd_T36 y252 0).f1, (rd_T36 y252 0).f2, (rd_T36 y252 0).f3⟩ : S36)] : List (S36)))).bind fun t321 => (some (!t321))) else (none))) else (none)) else (none)) = some r := H
         have A25 := Aside0.mk A250
         clear A250
         by_cases c26 : t289 = true
         ·subst c26
          have H1 : (if t314 = true then ((merge_Sorted.f k y252).bind fun t315 => (if t315 = true then ((merge_Sorted.f k (([(⟨(rd_T36 y252 2).f0, (rd_T36 y252 2).f1, (rd_T36 y252 2).f2, (rd_T36 y252 2).f3⟩ : S36), (⟨(rd_T36 y252 0).f0, (rd_T36 y252 0).f1, (rd_T36 y252 0).f2, (rd_T36 y252 0).f3⟩ : S36)] : List (S36)))).bind fun t321 => (some (!t321))) else (none))) else (none)) = some r := by rw [if_pos rfl] at H; exact H
          clear H
          have H := H1
          clear H1
          by_cases c27 : t314 = true
          ·subst c27
           have H1 : ((merge_Sorted.f k y252).bind fun t315 => (if t315 = true then ((merge_Sorted.f k (([(⟨(rd_T36 y252 2).f0, (rd_T36 y252 2).f1, (rd_T36 y252 2).f2, (rd_T36 y252 2).f3⟩ : S36), (⟨(rd_T36 y252 0).f0, (rd_T36 y252 0).f1, (rd_T36 y252 0).f2, (rd_T36 y252 0).f3⟩ : S36)] : List (S36)))).bind fun t321 => (some (!t321))) else (none))) = some r := by rw [if_pos rfl] at H; exact H
           clear H
           have H := H1
           clear H1
           replace H := Option.bind_eq_some_iff.mp H
           obtain ⟨t315, A280, H⟩ := H
           replace H : (if t315 = true then ((merge_Sorted.f k (([(⟨(rd_T36 y252 2).f0, (rd_T36 y252 2).f1, (rd_T36 y252 2).f2, (rd_T36 y252 2).f3⟩ : S36), (⟨(rd_T36 y252 0).f0, (rd_T36 y252 0).f1, (rd_T36 y252 0).f2, (rd_T36 y252 0).f3⟩ : S36)] : List (S36)))).bind fun t321 => (some (!t321))) else (none)) = some r := H
           have A28 := Aside0.mk A280
           clear A280
           by_cases c29 : t315 = true
           ·subst c29
            have H1 : ((merge_Sorted.f k (([(⟨(rd_T36 y252 2).f0, (rd_T36 y252 2).f1, (rd_T36 y252 2).f2, (rd_T36 y252 2).f3⟩ : S36), (⟨(rd_T36 y252 0).f0, (rd_T36 y252 0).f1, (rd_T36 y252 0).f2, (rd_T36 y252 0).f3⟩ : S36)] : List (S36)))).bind fun t321 => (some (!t321))) = some r := by rw [if_pos rfl] at H; exact H
            clear H
            have H := H1
            clear H1
            obtain ⟨y318, hy318⟩ : ∃ y_ : List (S36), y_ = (([(⟨(rd_T36 y252 2).f0, (rd_T36 y252 2).f1, (rd_T36 y252 2).f2, (rd_T36 y252 2).f3⟩ : S36), (⟨(rd_T36 y252 0).f0, (rd_T36 y252 0).f1, (rd_T36 y252 0).f2, (rd_T36 y252 0).f3⟩ : S36)] : List (S36))) := ⟨_, rfl⟩
            replace H : ((merge_Sorted.f k y318).bind fun t321 => (some (!t321))) = some r := by first | (rw [hy318]; with_reducible exact H) | (have H2_ := (Option.bind_some _ _).symm.trans H; rw [hy318]; with_reducible exact H2_) | (have H2_ := (Option.bind_some _ _).symm.trans H; with_reducible exact H2_) | with_reducible exact H | (rw [hy318]; exact H) | exact H
            have Ny318 := Aside0.mk hy318
            clear hy318
            replace H := Option.bind_eq_some_iff.mp H
            obtain ⟨t321, A300, H⟩ := H
            replace H : (some (!t321)) = some r := H
            have A30 := Aside0.mk A300
            clear A300
            obtain rfl := Option.some.inj H
            go_enter Try.func9, Try.ntmps9
            try go_wp2_with (first | ((with_reducible refine gate_callee (f := 24) rfl ?_); refine goesL_ (some 5) rfl rfl Try.func24 (by kernel_rfl) rfl #[.string (⟨#[97]⟩ : ByteArray), .int .i64 3] rfl (by (try simp only [List.map_toArray, List.map_cons, List.map_nil]); first | done | rfl | (simp only [List.length_drop, List.length_take]; rfl)) ?_; (with_reducible refine (moultlaw12_live.calls (⟨#[97]⟩ : ByteArray) 3 t244 t245 t246 t247 _ A1.out).mono ?_); rintro e w31 ⟨rfl, hb⟩; refine ⟨_, rfl, ?_⟩; have n0_ := Aside0.mk (below_step (by repeat (first | (with_reducible first | exact HB.out | apply below_alloc | apply pw_below_drewN | apply below_drew1) | exact HB.out)) hb); clear HB; have HB := n0_; clear n0_; (try clear hb); (try clear hb2); (try clear hk); (try clear hi)) | ((with_reducible refine gate_callee (f := 24) rfl ?_); refine goesL_ (some 6) rfl rfl Try.func24 (by kernel_rfl) rfl #[.string (⟨#[98]⟩ : ByteArray), .int .i64 4] rfl (by (try simp only [List.map_toArray, List.map_cons, List.map_nil]); first | done | rfl | (simp only [List.length_drop, List.length_take]; rfl)) ?_; (with_reducible refine (moultlaw12_live.calls (⟨#[98]⟩ : ByteArray) 4 t248 t249 t250 t251 _ A2.out).mono ?_); rintro e w32 ⟨rfl, hb⟩; refine ⟨_, rfl, ?_⟩; have n0_ := Aside0.mk (below_step (by repeat (first | (with_reducible first | exact HB.out | apply below_alloc | apply pw_below_drewN | apply below_drew1) | exact HB.out)) hb); clear HB; have HB := n0_; clear n0_; (try clear hb); (try clear hb2); (try clear hk); (try clear hi)) | ((with_reducible refine gate_dst (N := 7) rfl ?_); (try (refine gate_guard (by rfl) ?_; dsimp only)); refine Kd.R_lit k36 _ 36 ?hg (N := 7) ?hd (xs := ([(⟨(⟨#[97]⟩ : ByteArray), 5, true, (⟨#[]⟩ : ByteArray)⟩ : S36), (⟨t244, t245, t246, t247⟩ : S36), (⟨t248, t249, t250, t251⟩ : S36)] : List (S36))) (inner := [.string (⟨#[97]⟩ : ByteArray), .int .i64 5, .bool true, .string (⟨#[]⟩ : ByteArray), .string t244, .int .i64 t245, .bool t246, .string t247, .string t248, .int .i64 t249, .bool t250, .string t251]) (ok := fun _ => True) (okp := fun _ => True) ?hr ?hp (fun _ hk => hk) trivial (Below.refl _ _) (Nat.le_refl _) (by simp) ?_; (case hd => rfl); (case hg => rfl); (case hr => first | (go_simp; done) | (go_simp; rfl)); (case hp => exact (Reps.c4 (show Kd.M k36 _ _ _ (⟨(⟨#[97]⟩ : ByteArray), 5, true, (⟨#[]⟩ : ByteArray)⟩ : S36) [.string (⟨#[97]⟩ : ByteArray), .int .i64 5, .bool true, .string (⟨#[]⟩ : ByteArray)] from (k36_mkM _ _ _ (⟨(⟨#[97]⟩ : ByteArray), 5, true, (⟨#[]⟩ : ByteArray)⟩ : S36) )) (Reps.c4 (show Kd.M k36 _ _ _ (⟨t244, t245, t246, t247⟩ : S36) [.string t244, .int .i64 t245, .bool t246, .string t247] from (k36_mkM _ _ _ (⟨t244, t245, t246, t247⟩ : S36) )) (Reps.c4 (show Kd.M k36 _ _ _ (⟨t248, t249, t250, t251⟩ : S36) [.string t248, .int .i64 t249, .bool t250, .string t251] from (k36_mkM _ _ _ (⟨t248, t249, t250, t251⟩ : S36) )) (Reps.none _ _))))); intro v253 w33 ho34 hb hg_ hnew_; clear hg_ hnew_; (first | rw [← Ny252.out] at ho34 | (simp only [Int.reduceToNat] at ho34; rw [← Ny252.out] at ho34)); have n0_ := Aside0.mk (Kd.R_lower ho34 (below_size (by repeat (first | (with_reducible first | exact HB.out | apply below_alloc | apply pw_below_drewN | apply below_drew1) | exact HB.out)))); have n1_ := Aside0.mk (below_step (by repeat (first | (with_reducible first | exact HB.out | apply below_alloc | apply pw_below_drewN | apply below_drew1) | exact HB.out)) hb); clear HB; have HO254 := n0_; have HB := n1_; clear n0_ n1_; clear hb ho34))
            have n0_ := Aside0.mk (Kd.R_drew HO254.out)
            have n1_ := Aside0.mk (below_drew1 HB.out)
            clear HO254
            clear HB
            have HO254 := n0_
            have HB := n1_
            clear n0_ n1_
            obtain ⟨Ao37, co37, eo37⟩ := Kd.R_slice HO254.out
            (first | subst eo37 | (injection eo37 with f1_ f2_ f3_; have f4_ := f1_.symm; have f5_ := f3_.symm; clear f1_ f2_ f3_; subst f4_; subst f5_))
            have q36 : (2 : Int) ≤ ((y252.length : Int) : Int) := of_decide_eq_true (by first | (with_reducible assumption) | assumption)
            obtain ⟨i036, hi036, _, hsz36, _⟩ := info_parts info36
            have hroom36 : y252.length ≤ co37 := (Kd.R_reads' HO254.out).2.1
            have hC36 : Kd.F k36 _ _ Ao37 y252.length y252 := (Kd.V_at (base := w.heap.size) (Kd.R_V HO254.out)).2.2
            have hcut36 := cut_from (P := Try.prog) 27 36 .i64 Try.underlying27 hi036 4 hsz36 Ao37 y252.length co37 2 (by omega) q36
            have hr36 := Kd.F_cut (m := (2 : Int).toNat) (c := co37) hC36 (by omega) hroom36
            obtain ⟨A36, hA36⟩ : ∃ A1, A1 = (if co37 = (2 : Int).toNat then Ao37 else (Ao37 : Option Addr).map (·.add ((2 : Int).toNat * 4))) := ⟨_, rfl⟩
            obtain ⟨c36, hc36⟩ : ∃ c1, c1 = co37 - (2 : Int).toNat := ⟨_, rfl⟩
            have hy36 : y258.length = y252.length - (2 : Int).toNat := (by rw [Ny258.out, List.length_drop] <;> omega)
            rw [show (y252).drop (2 : Int).toNat = y258 from Ny258.out.symm] at hr36
            replace hr36 : Kd.F k36 _ _ A36 y258.length y258 := (by rw [hA36]; exact hr36)
            rw [← hy36, ← hA36, ← hc36] at hcut36
            have HO262 := Aside0.mk (show Kd.V k36 36 _ w.heap.size _ (.slice A36 y258.length c36) y258 from Kd.V_mk (by rw [hy36, hc36]; exact Nat.sub_le_sub_right hroom36 _) hr36)
            have HC262 := Aside0.mk (show y258.length ≤ c36 from by rw [hy36, hc36]; exact Nat.sub_le_sub_right hroom36 _)
            clear hr36 hC36 hroom36 hi036 hsz36 hc36
            have KY36 := Aside0.mk hy36
            have KA36 := Aside0.mk hA36
            clear hy36 hA36
            replace q36 := eq_true q36
            refine start_ (n := 23) (S := fun w' => True) (ds := []) #[ff, ff, ff, ff, ff, ff, ff, ff, ff, ff, ff, ff, ff, ff, ff, ff, ff, ff, ff, ff, ff, ff, ff] (by kernel_rfl) rfl rfl trivial (fun hHeld => ?_); refine with_tabW moultlaw12_shown.tab2 moultlaw12_shown.bits2 (fun HT_ HW_ => ?_)
            generalize w33.drew = w35 at HO254 HB HO262 hHeld ⊢
            refine pq_ (i := 0) (N := some 8) HT_ #[tt, ff, ff, ff, ff, ff, ff, ff, ff, ff, ff, ff, ff, ff, ff, ff, ff, ff, ff, ff, ff, ff, ff] ?_
            refine pq_ (i := 2) (N := some 10) HT_ #[tt, ff, tt, ff, ff, ff, ff, ff, ff, ff, ff, ff, ff, ff, ff, ff, ff, ff, ff, ff, ff, ff, ff] ?_
            refine pq_ (i := 3) (N := some 11) HT_ #[tt, ff, tt, tt, ff, ff, ff, ff, ff, ff, ff, ff, ff, ff, ff, ff, ff, ff, ff, ff, ff, ff, ff] ?_
            refine one_ (i := 1) (N := some 9) #[tt, tt, tt, tt, ff, ff, ff, ff, ff, ff, ff, ff, ff, ff, ff, ff, ff, ff, ff, ff, ff, ff, ff] rfl rfl (one_of HT_.out (by kernel_rfl)) (by decide) (fun K hK => ?_)
            refine goes_ Try.func14 (by kernel_rfl) rfl #[.slice Ao37 y252.length co37, .int .i64 9] (by rfl) rfl rfl (by (try simp only [List.map_toArray, List.map_cons, List.map_nil]); first | done | rfl | (simp only [List.length_drop, List.length_take]; rfl)) ?_
            with_reducible refine (merge_Visible.calls k _ _ y252 9 t255 _ ?side1 ?side2 A3.out).mono ?_
            (case side1 => repeat (first | exact (Kd.R_reads' HO254.out).2.2 | (with_reducible refine Kd.C_alloc ?_ _) | (with_reducible refine Kd.C_drewN ?_ _) | (with_reducible refine Kd.C_drew ?_)))
            (case side2 => exact (Kd.R_reads' HO254.out).2.1)
            rintro e w38 ⟨v256, rfl, ho0, hb⟩
            refine ⟨_, rfl, ?_⟩
            have n0_ := Aside0.mk (Kd.R_elder' (by (with_reducible repeat (first | apply Kd.R_alloc | apply Kd.R_drewN | apply Kd.R_drew)); exact HO254.out) (Kd.R_base ho0) hb)
            have n1_ := Aside0.mk (Kd.V_elder' (by (with_reducible repeat (first | apply Kd.V_alloc | apply Kd.V_drewN | apply Kd.V_drew)); exact HO262.out) (Kd.R_base ho0) hb)
            have n2_ := Aside0.mk (Kd.R_lower (Kd.R_new' ho0 (Kd.R_lt (by (with_reducible repeat (first | apply Kd.R_alloc | apply Kd.R_drewN | apply Kd.R_drew)); exact HO254.out))) (below_size (by repeat (first | (with_reducible first | exact HB.out | apply below_alloc | apply pw_below_drewN | apply below_drew1) | exact HB.out))))
            have n3_ := Aside0.mk (below_step (by repeat (first | (with_reducible first | exact HB.out | apply below_alloc | apply pw_below_drewN | apply below_drew1) | exact HB.out)) hb)
            clear HO254
            clear HO262
            clear HB
            have HO254 := n0_
            have HO262 := n1_
            have HO257 := n2_
            have HB := n3_
            clear n0_ n1_ n2_ n3_
            (try clear hb)
            (try clear hb2)
            (try clear hk)
            (try clear hi)
            (try clear ho0)
            obtain ⟨Ao39, co39, eo39⟩ := Kd.R_slice HO257.out
            (first | subst eo39 | (injection eo39 with f1_ f2_ f3_; have f4_ := f1_.symm; have f5_ := f3_.symm; clear f1_ f2_ f3_; subst f4_; subst f5_))
            refine hK.out _ _ trivial (fun hHeld => ?_)
            clear hK K
            refine norm_ (a' := ?_) ?_ ?_
            rotate_left
            ·show Act.put _ (some 9) _ = _
             simp only [Act.put, List.setIfInBounds_toArray, List.set_cons_zero, List.set_cons_succ, i64_w, i32_w]
             rfl
            refine one_ (i := 4) (N := some 12) #[tt, tt, tt, tt, tt, ff, ff, ff, ff, ff, ff, ff, ff, ff, ff, ff, ff, ff, ff, ff, ff, ff, ff] rfl rfl (one_of HT_.out (by kernel_rfl)) (by decide) (fun K hK => ?_)
            refine goes_ Try.func13 (by kernel_rfl) rfl #[.slice Ao39 t255.length co39, .slice A36 y258.length c36] (by rfl) rfl rfl (by (try simp only [List.map_toArray, List.map_cons, List.map_nil]); first | done | rfl | (simp only [List.length_drop, List.length_take]; rfl)) ?_
            with_reducible refine (moultlaw12_same.calls k _ _ t255 _ _ y258 true _ ?side1 ?side2 ?side3 ?side4 A5.out).mono ?_
            (case side1 => repeat (first | exact (Kd.R_reads' HO257.out).2.2 | (with_reducible refine Kd.C_alloc ?_ _) | (with_reducible refine Kd.C_drewN ?_ _) | (with_reducible refine Kd.C_drew ?_)))
            (case side2 => exact (Kd.R_reads' HO257.out).2.1)
            (case side3 => repeat (first | exact (Kd.V_reads' HO262.out).2.2 | (with_reducible refine Kd.C_alloc ?_ _) | (with_reducible refine Kd.C_drewN ?_ _) | (with_reducible refine Kd.C_drew ?_)))
            (case side4 => exact (Kd.V_reads' HO262.out).2.1)
            rintro e w' ⟨rfl, ⟨nd, rfl⟩⟩
            refine ⟨_, rfl, ?_⟩
            refine hK.out _ _ trivial (fun hHeld => ?_)
            clear hK K
            refine norm_ (a' := ?_) ?_ ?_
            rotate_left
            ·show Act.put _ (some 12) _ = _
             simp only [Act.put, List.setIfInBounds_toArray, List.set_cons_zero, List.set_cons_succ, i64_w, i32_w]
             rfl
            refine pq_ (i := 5) (N := some 13) HT_ #[tt, tt, tt, tt, tt, tt, ff, ff, ff, ff, ff, ff, ff, ff, ff, ff, ff, ff, ff, ff, ff, ff, ff] ?_
            refine pq_ (i := 6) (N := some 14) HT_ #[tt, tt, tt, tt, tt, tt, tt, ff, ff, ff, ff, ff, ff, ff, ff, ff, ff, ff, ff, ff, ff, ff, ff] ?_
            refine pq_ (i := 8) (N := some 16) HT_ #[tt, tt, tt, tt, tt, tt, tt, ff, tt, ff, ff, ff, ff, ff, ff, ff, ff, ff, ff, ff, ff, ff, ff] ?_
            have q41 : (1 : Int) ≤ ((y252.length : Int) : Int) := of_decide_eq_true (by first | (with_reducible assumption) | assumption)
            obtain ⟨i041, hi041, _, hsz41, _⟩ := info_parts info36
            have hroom41 : y252.length ≤ co37 := (Kd.R_reads' HO254.out).2.1
            have hC41 : Kd.F k36 _ _ Ao37 y252.length y252 := (Kd.V_at (base := w.heap.size) (Kd.R_V HO254.out)).2.2
            have hcut41 := cut_from (P := Try.prog) 27 36 .i64 Try.underlying27 hi041 4 hsz41 Ao37 y252.length co37 1 (by omega) q41
            have hr41 := Kd.F_cut (m := (1 : Int).toNat) (c := co37) hC41 (by omega) hroom41
            obtain ⟨A41, hA41⟩ : ∃ A1, A1 = (if co37 = (1 : Int).toNat then Ao37 else (Ao37 : Option Addr).map (·.add ((1 : Int).toNat * 4))) := ⟨_, rfl⟩
            obtain ⟨c41, hc41⟩ : ∃ c1, c1 = co37 - (1 : Int).toNat := ⟨_, rfl⟩
            have hy41 : y267.length = y252.length - (1 : Int).toNat := (by rw [Ny267.out, List.length_drop] <;> omega)
            rw [show (y252).drop (1 : Int).toNat = y267 from Ny267.out.symm] at hr41
            replace hr41 : Kd.F k36 _ _ A41 y267.length y267 := (by rw [hA41]; exact hr41)
            rw [← hy41, ← hA41, ← hc41] at hcut41
            have HO271 := Aside0.mk (show Kd.V k36 36 _ w.heap.size _ (.slice A41 y267.length c41) y267 from Kd.V_mk (by rw [hy41, hc41]; exact Nat.sub_le_sub_right hroom41 _) hr41)
            have HC271 := Aside0.mk (show y267.length ≤ c41 from by rw [hy41, hc41]; exact Nat.sub_le_sub_right hroom41 _)
            clear hr41 hC41 hroom41 hi041 hsz41 hc41
            have KY41 := Aside0.mk hy41
            have KA41 := Aside0.mk hA41
            clear hy41 hA41
            replace q41 := eq_true q41
            refine pq_ (i := 9) (N := some 17) HT_ #[tt, tt, tt, tt, tt, tt, tt, ff, tt, tt, ff, ff, ff, ff, ff, ff, ff, ff, ff, ff, ff, ff, ff] ?_
            refine one_ (i := 7) (N := some 15) #[tt, tt, tt, tt, tt, tt, tt, tt, tt, tt, ff, ff, ff, ff, ff, ff, ff, ff, ff, ff, ff, ff, ff] rfl rfl (one_of HT_.out (by kernel_rfl)) (by decide) (fun K hK => ?_)
            refine goes_ Try.func14 (by kernel_rfl) rfl #[.slice Ao37 y252.length co37, .int .i64 4] (by rfl) rfl rfl (by (try simp only [List.map_toArray, List.map_cons, List.map_nil]); first | done | rfl | (simp only [List.length_drop, List.length_take]; rfl)) ?_
            with_reducible refine (merge_Visible.calls k _ _ y252 4 t264 _ ?side1 ?side2 A7.out).mono ?_
            (case side1 => repeat (first | exact (Kd.R_reads' HO254.out).2.2 | (with_reducible refine Kd.C_alloc ?_ _) | (with_reducible refine Kd.C_drewN ?_ _) | (with_reducible refine Kd.C_drew ?_)))
            (case side2 => exact (Kd.R_reads' HO254.out).2.1)
            rintro e w40 ⟨v265, rfl, ho0, hb⟩
            refine ⟨_, rfl, ?_⟩
            have n0_ := Aside0.mk (Kd.R_elder' (by (with_reducible repeat (first | apply Kd.R_alloc | apply Kd.R_drewN | apply Kd.R_drew)); exact HO254.out) (Kd.R_base ho0) hb)
            have n1_ := Aside0.mk (Kd.V_elder' (by (with_reducible repeat (first | apply Kd.V_alloc | apply Kd.V_drewN | apply Kd.V_drew)); exact HO262.out) (Kd.R_base ho0) hb)
            have n1b_ := Aside0.mk (Kd.V_elder' (by (with_reducible repeat (first | apply Kd.V_alloc | apply Kd.V_drewN | apply Kd.V_drew)); exact HO271.out) (Kd.R_base ho0) hb)
            clear HO271
            have HO271 := n1b_
            clear n1b_
            have n2_ := Aside0.mk (Kd.R_elder' (by (with_reducible repeat (first | apply Kd.R_alloc | apply Kd.R_drewN | apply Kd.R_drew)); exact HO257.out) (Kd.R_base ho0) hb)
            have n3_ := Aside0.mk (Kd.R_lower (Kd.R_new' (Kd.R_new' ho0 (Kd.R_lt (by (with_reducible repeat (first | apply Kd.R_alloc | apply Kd.R_drewN | apply Kd.R_drew)); exact HO254.out))) (Kd.R_lt (by (with_reducible repeat (first | apply Kd.R_alloc | apply Kd.R_drewN | apply Kd.R_drew)); exact HO257.out))) (below_size (by repeat (first | (with_reducible first | exact HB.out | apply below_alloc | apply pw_below_drewN | apply below_drew1) | exact HB.out))))
            have n4_ := Aside0.mk (below_step (by repeat (first | (with_reducible first | exact HB.out | apply below_alloc | apply pw_below_drewN | apply below_drew1) | exact HB.out)) hb)
            clear HO254
            clear HO262
            clear HO257
            clear HB
            have HO254 := n0_
            have HO262 := n1_
            have HO257 := n2_
            have HO266 := n3_
            have HB := n4_
            clear n0_ n1_ n2_ n3_ n4_
            (try clear hb)
            (try clear hb2)
            (try clear hk)
            (try clear hi)
            (try clear ho0)
            obtain ⟨Ao42, co42, eo42⟩ := Kd.R_slice HO266.out
            (first | subst eo42 | (injection eo42 with f1_ f2_ f3_; have f4_ := f1_.symm; have f5_ := f3_.symm; clear f1_ f2_ f3_; subst f4_; subst f5_))
            refine hK.out _ _ trivial (fun hHeld => ?_)
            clear hK K
            refine norm_ (a' := ?_) ?_ ?_
            rotate_left
            ·show Act.put _ (some 15) _ = _
             simp only [Act.put, List.setIfInBounds_toArray, List.set_cons_zero, List.set_cons_succ, i64_w, i32_w]
             rfl
            refine one_ (i := 10) (N := some 18) #[tt, tt, tt, tt, tt, tt, tt, tt, tt, tt, tt, ff, ff, ff, ff, ff, ff, ff, ff, ff, ff, ff, ff] rfl rfl (one_of HT_.out (by kernel_rfl)) (by decide) (fun K hK => ?_)
            refine goes_ Try.func13 (by kernel_rfl) rfl #[.slice Ao42 t264.length co42, .slice A41 y267.length c41] (by rfl) rfl rfl (by (try simp only [List.map_toArray, List.map_cons, List.map_nil]); first | done | rfl | (simp only [List.length_drop, List.length_take]; rfl)) ?_
            with_reducible refine (moultlaw12_same.calls k _ _ t264 _ _ y267 true _ ?side1 ?side2 ?side3 ?side4 A9.out).mono ?_
            (case side1 => repeat (first | exact (Kd.R_reads' HO266.out).2.2 | (with_reducible refine Kd.C_alloc ?_ _) | (with_reducible refine Kd.C_drewN ?_ _) | (with_reducible refine Kd.C_drew ?_)))
            (case side2 => exact (Kd.R_reads' HO266.out).2.1)
            (case side3 => repeat (first | exact (Kd.V_reads' HO271.out).2.2 | (with_reducible refine Kd.C_alloc ?_ _) | (with_reducible refine Kd.C_drewN ?_ _) | (with_reducible refine Kd.C_drew ?_)))
            (case side4 => exact (Kd.V_reads' HO271.out).2.1)
            rintro e w' ⟨rfl, ⟨nd, rfl⟩⟩
            refine ⟨_, rfl, ?_⟩
            have q43 : (2 : Int) ≤ ((y252.length : Int) : Int) := of_decide_eq_true (by first | (with_reducible assumption) | assumption)
            obtain ⟨i043, hi043, _, hsz43, _⟩ := info_parts info36
            have hroom43 : y252.length ≤ co37 := (Kd.R_reads' HO254.out).2.1
            have hC43 : Kd.F k36 _ _ Ao37 y252.length y252 := (Kd.V_at (base := w.heap.size) (Kd.R_V HO254.out)).2.2
            try clear hcut36
            have hcut43 := cut_from (P := Try.prog) 27 36 .i64 Try.underlying27 hi043 4 hsz43 Ao37 y252.length co37 2 (by omega) q43
            have hr43 := Kd.F_cut (m := (2 : Int).toNat) (c := co37) hC43 (by omega) hroom43
            obtain ⟨A43, hA43⟩ : ∃ A1, A1 = (if co37 = (2 : Int).toNat then Ao37 else (Ao37 : Option Addr).map (·.add ((2 : Int).toNat * 4))) := ⟨_, rfl⟩
            obtain ⟨c43, hc43⟩ : ∃ c1, c1 = co37 - (2 : Int).toNat := ⟨_, rfl⟩
            have hy43 : y273.length = y252.length - (2 : Int).toNat := (by rw [Ny273.out, List.length_drop] <;> omega)
            rw [show (y252).drop (2 : Int).toNat = y273 from Ny273.out.symm] at hr43
            replace hr43 : Kd.F k36 _ _ A43 y273.length y273 := (by rw [hA43]; exact hr43)
            rw [← hy43, ← hA43, ← hc43] at hcut43
            have HO277 := Aside0.mk (show Kd.V k36 36 _ w.heap.size _ (.slice A43 y273.length c43) y273 from Kd.V_mk (by rw [hy43, hc43]; exact Nat.sub_le_sub_right hroom43 _) hr43)
            have HC277 := Aside0.mk (show y273.length ≤ c43 from by rw [hy43, hc43]; exact Nat.sub_le_sub_right hroom43 _)
            clear hr43 hC43 hroom43 hi043 hsz43 hc43
            have KY43 := Aside0.mk hy43
            have KA43 := Aside0.mk hA43
            clear hy43 hA43
            replace q43 := eq_true q43
            have q44 : (2 : Int) ≤ ((y252.length : Int) : Int) := of_decide_eq_true (by first | (with_reducible assumption) | assumption)
            obtain ⟨i044, hi044, _, hsz44, _⟩ := info_parts info36
            have hroom44 : y252.length ≤ co37 := (Kd.R_reads' HO254.out).2.1
            have hC44 : Kd.F k36 _ _ Ao37 y252.length y252 := (Kd.V_at (base := w.heap.size) (Kd.R_V HO254.out)).2.2
            have hcut44 := cut_to (P := Try.prog) 27 36 .i64 Try.underlying27 hi044 Ao37 y252.length co37 2 (by omega) q44 hroom44
            have hr44 := Kd.F_take (m := 2) hC44 (by omega)
            have hy44 : y278.length = (2 : Int).toNat := (by rw [Ny278.out, List.length_take]; omega)
            rw [← Ny278.out] at hr44
            rw [← hy44] at hcut44
            have HO282 := Aside0.mk (show Kd.V k36 36 _ w.heap.size _ (.slice Ao37 y278.length co37) y278 from Kd.V_mk (by omega) hr44)
            have HC282 := Aside0.mk (show y278.length ≤ co37 from by omega)
            clear hr44 hC44 hroom44 hi044 hsz44
            have KY44 := Aside0.mk hy44
            clear hy44
            replace q44 := eq_true q44
            refine hK.out _ _ trivial (fun hHeld => ?_)
            clear hK K
            refine norm_ (a' := ?_) ?_ ?_
            rotate_left
            ·show Act.put _ (some 18) _ = _
             simp only [Act.put, List.setIfInBounds_toArray, List.set_cons_zero, List.set_cons_succ, i64_w, i32_w]
             rfl
            refine pq_ (i := 11) (N := some 19) HT_ #[tt, tt, tt, tt, tt, tt, tt, tt, tt, tt, tt, tt, ff, ff, ff, ff, ff, ff, ff, ff, ff, ff, ff] ?_
            refine pq_ (i := 12) (N := some 20) HT_ #[tt, tt, tt, tt, tt, tt, tt, tt, tt, tt, tt, tt, tt, ff, ff, ff, ff, ff, ff, ff, ff, ff, ff] ?_
            refine pq_ (i := 13) (N := some 21) HT_ #[tt, tt, tt, tt, tt, tt, tt, tt, tt, tt, tt, tt, tt, tt, ff, ff, ff, ff, ff, ff, ff, ff, ff] ?_
            refine pq_ (i := 14) (N := some 22) HT_ #[tt, tt, tt, tt, tt, tt, tt, tt, tt, tt, tt, tt, tt, tt, tt, ff, ff, ff, ff, ff, ff, ff, ff] ?_
            refine pq_ (i := 15) (N := some 23) HT_ #[tt, tt, tt, tt, tt, tt, tt, tt, tt, tt, tt, tt, tt, tt, tt, tt, ff, ff, ff, ff, ff, ff, ff] ?_
            refine pq_ (i := 16) (N := some 24) HT_ #[tt, tt, tt, tt, tt, tt, tt, tt, tt, tt, tt, tt, tt, tt, tt, tt, tt, ff, ff, ff, ff, ff, ff] ?_
            refine pq_ (i := 19) (N := some 27) HT_ #[tt, tt, tt, tt, tt, tt, tt, tt, tt, tt, tt, tt, tt, tt, tt, tt, tt, ff, ff, tt, ff, ff, ff] ?_
            refine one_ (i := 17) (N := some 25) #[tt, tt, tt, tt, tt, tt, tt, tt, tt, tt, tt, tt, tt, tt, tt, tt, tt, tt, ff, tt, ff, ff, ff] rfl rfl (one_of HT_.out (by kernel_rfl)) (by decide) (fun K hK => ?_)
            refine Kd.N_lit_step (Kd.slice 36 k36) _ 27 ?hg (N' := 25) ?hd (xs := ([y273, y278] : List (List (S36)))) (inner := [.slice A43 y273.length c43, .slice Ao37 y278.length co37]) (ok := (fun k_ => some k_ ≠ (.slice Ao39 t255.length co39 : Value).ownBlock ∧ some k_ ≠ (.slice Ao42 t264.length co42 : Value).ownBlock)) (okp := (fun k_ => some k_ ≠ (.slice Ao39 t255.length co39 : Value).ownBlock ∧ some k_ ≠ (.slice Ao42 t264.length co42 : Value).ownBlock)) ?hr ?hp (fun _ hk => hk) ((show ∀ k_, w40.heap.size ≤ k_ → (fun k_ => some k_ ≠ (.slice Ao39 t255.length co39 : Value).ownBlock ∧ some k_ ≠ (.slice Ao42 t264.length co42 : Value).ownBlock) k_ from fun k_ hk => ⟨Kd.fresh' (Kd.R_lt (by (with_reducible repeat (first | apply Kd.R_alloc | apply Kd.R_drewN | apply Kd.R_drew)); exact HO257.out)) k_ hk, Kd.fresh' (Kd.R_lt (by (with_reducible repeat (first | apply Kd.R_alloc | apply Kd.R_drewN | apply Kd.R_drew)); exact HO266.out)) k_ hk⟩) _ (Nat.le_refl _)) (Below.refl _ _) (Nat.le_refl _) (by simp) ?_; (case hd => rfl); (case hg => rfl); (case hr => first | (go_simp; done) | (go_simp; rfl)); (case hp => first | exact (Reps.one (show Kd.FK (Kd.slice 36 k36) _ _ y273 [.slice A43 y273.length c43] from (Kd.FK_slice_mk (Kd.V_reads' (Kd.V_mono (ok' := (fun k_ => some k_ ≠ (.slice Ao39 t255.length co39 : Value).ownBlock ∧ some k_ ≠ (.slice Ao42 t264.length co42 : Value).ownBlock)) (HO277.out) (fun k_ hk => ⟨hk.1.2, hk.2⟩))).2.1 (Kd.V_F (Kd.V_mono (ok' := (fun k_ => some k_ ≠ (.slice Ao39 t255.length co39 : Value).ownBlock ∧ some k_ ≠ (.slice Ao42 t264.length co42 : Value).ownBlock)) (HO277.out) (fun k_ hk => ⟨hk.1.2, hk.2⟩))))) (Reps.one (show Kd.FK (Kd.slice 36 k36) _ _ y278 [.slice Ao37 y278.length co37] from (Kd.FK_slice_mk (Kd.V_reads' (Kd.V_mono (ok' := (fun k_ => some k_ ≠ (.slice Ao39 t255.length co39 : Value).ownBlock ∧ some k_ ≠ (.slice Ao42 t264.length co42 : Value).ownBlock)) (HO282.out) (fun k_ hk => ⟨hk.1.2, hk.2⟩))).2.1 (Kd.V_F (Kd.V_mono (ok' := (fun k_ => some k_ ≠ (.slice Ao39 t255.length co39 : Value).ownBlock ∧ some k_ ≠ (.slice Ao42 t264.length co42 : Value).ownBlock)) (HO282.out) (fun k_ hk => ⟨hk.1.2, hk.2⟩))))) (Reps.none _ _))) | exact (Reps.one (show Kd.FK (Kd.slice 36 k36) _ _ y273 [.slice A43 y273.length c43] from (Kd.FK_slice_mk (Kd.V_reads' (Kd.V_mono (ok' := (fun k_ => some k_ ≠ (.slice Ao39 t255.length co39 : Value).ownBlock ∧ some k_ ≠ (.slice Ao42 t264.length co42 : Value).ownBlock)) (HO277.out) (fun k_ hk => ⟨hk.1.2, hk.2⟩))).2.1 (Kd.V_F (Kd.V_mono (ok' := (fun k_ => some k_ ≠ (.slice Ao39 t255.length co39 : Value).ownBlock ∧ some k_ ≠ (.slice Ao42 t264.length co42 : Value).ownBlock)) (Kd.V_drewN HO277.out _) (fun k_ hk => ⟨hk.1.2, hk.2⟩))))) (Reps.one (show Kd.FK (Kd.slice 36 k36) _ _ y278 [.slice Ao37 y278.length co37] from (Kd.FK_slice_mk (Kd.V_reads' (Kd.V_mono (ok' := (fun k_ => some k_ ≠ (.slice Ao39 t255.length co39 : Value).ownBlock ∧ some k_ ≠ (.slice Ao42 t264.length co42 : Value).ownBlock)) (HO282.out) (fun k_ hk => ⟨hk.1.2, hk.2⟩))).2.1 (Kd.V_F (Kd.V_mono (ok' := (fun k_ => some k_ ≠ (.slice Ao39 t255.length co39 : Value).ownBlock ∧ some k_ ≠ (.slice Ao42 t264.length co42 : Value).ownBlock)) (Kd.V_drewN HO282.out _) (fun k_ hk => ⟨hk.1.2, hk.2⟩))))) (Reps.none _ _))))
            intro v284 w45 ho46 hb hg_ hnew_
            clear hg_ hnew_
            (first | rw [← Ny283.out] at ho46 | (simp only [Int.reduceToNat] at ho46; rw [← Ny283.out] at ho46))
            have n0_ := Aside0.mk (Kd.R_below (by (with_reducible repeat (first | apply Kd.R_alloc | apply Kd.R_drewN | apply Kd.R_drew)); exact HO254.out) hb)
            have n1_ := Aside0.mk (Kd.V_elder' (by (with_reducible repeat (first | apply Kd.V_alloc | apply Kd.V_drewN | apply Kd.V_drew)); exact HO262.out) (Kd.N_base ho46) hb)
            have n2_ := Aside0.mk (Kd.R_below (by (with_reducible repeat (first | apply Kd.R_alloc | apply Kd.R_drewN | apply Kd.R_drew)); exact HO257.out) hb)
            have n3_ := Aside0.mk (Kd.R_below (by (with_reducible repeat (first | apply Kd.R_alloc | apply Kd.R_drewN | apply Kd.R_drew)); exact HO266.out) hb)
            have n4_ := Aside0.mk (Kd.V_elder' (by (with_reducible repeat (first | apply Kd.V_alloc | apply Kd.V_drewN | apply Kd.V_drew)); exact HO271.out) (Kd.N_base ho46) hb)
            have n5_ := Aside0.mk (Kd.V_elder' (by (with_reducible repeat (first | apply Kd.V_alloc | apply Kd.V_drewN | apply Kd.V_drew)); exact HO277.out) (Kd.N_base ho46) hb)
            have n6_ := Aside0.mk (Kd.V_elder' (by (with_reducible repeat (first | apply Kd.V_alloc | apply Kd.V_drewN | apply Kd.V_drew)); exact HO282.out) (Kd.N_base ho46) hb)
            have n7_ := Aside0.mk (Kd.N_lower ho46 (below_size (by repeat (first | (with_reducible first | exact HB.out | apply below_alloc | apply pw_below_drewN | apply below_drew1) | exact HB.out))))
            have n8_ := Aside0.mk (below_step (by repeat (first | (with_reducible first | exact HB.out | apply below_alloc | apply pw_below_drewN | apply below_drew1) | exact HB.out)) hb)
            clear HO254
            clear HO262
            clear HO257
            clear HO266
            clear HO271
            clear HO277
            clear HO282
            clear HB
            have HO254 := n0_
            have HO262 := n1_
            have HO257 := n2_
            have HO266 := n3_
            have HO271 := n4_
            have HO277 := n5_
            have HO282 := n6_
            have HO285 := n7_
            have HB := n8_
            clear n0_ n1_ n2_ n3_ n4_ n5_ n6_ n7_ n8_
            clear hb ho46
            obtain ⟨Ao47, co47, eo47⟩ := Kd.N_slice HO285.out
            (first | subst eo47 | (injection eo47 with f1_ f2_ f3_; have f4_ := f1_.symm; have f5_ := f3_.symm; clear f1_ f2_ f3_; subst f4_; subst f5_))
            refine hK.out _ _ trivial (fun hHeld => ?_)
            clear hK K
            refine norm_ (a' := ?_) ?_ ?_
            rotate_left
            ·show Act.put _ (some 25) _ = _
             simp only [Act.put, List.setIfInBounds_toArray, List.set_cons_zero, List.set_cons_succ, i64_w, i32_w]
             rfl
            refine one_ (i := 18) (N := some 26) #[tt, tt, tt, tt, tt, tt, tt, tt, tt, tt, tt, tt, tt, tt, tt, tt, tt, tt, tt, tt, ff, ff, ff] rfl rfl (one_of HT_.out (by kernel_rfl)) (by decide) (fun K hK => ?_)
            refine goes_ Try.func11 (by kernel_rfl) rfl #[.slice Ao47 y283.length co47] (by rfl) rfl rfl (by (try simp only [List.map_toArray, List.map_cons, List.map_nil]); first | done | rfl | (simp only [List.length_drop, List.length_take]; rfl)) ?_
            with_reducible refine (merge_Merge.calls k _ _ y283 t286 _ ?side1 ?side2 A13.out).mono ?_
            (case side1 => repeat (first | exact (Kd.N_reads' HO285.out).2.2 | (with_reducible refine Kd.C_alloc ?_ _) | (with_reducible refine Kd.C_drewN ?_ _) | (with_reducible refine Kd.C_drew ?_)))
            (case side2 => exact (Kd.N_reads' HO285.out).2.1)
            rintro e w48 ⟨v287, rfl, ho0, hb⟩
            refine ⟨_, rfl, ?_⟩
            have n0_ := Aside0.mk (Kd.R_elder' (by (with_reducible repeat (first | apply Kd.R_alloc | apply Kd.R_drewN | apply Kd.R_drew)); exact HO254.out) (Kd.R_base ho0) hb)
            have n1_ := Aside0.mk (Kd.V_elder' (by (with_reducible repeat (first | apply Kd.V_alloc | apply Kd.V_drewN | apply Kd.V_drew)); exact HO262.out) (Kd.R_base ho0) hb)
            have n2_ := Aside0.mk (Kd.R_elder' (by (with_reducible repeat (first | apply Kd.R_alloc | apply Kd.R_drewN | apply Kd.R_drew)); exact HO257.out) (Kd.R_base ho0) hb)
            have n3_ := Aside0.mk (Kd.R_elder' (by (with_reducible repeat (first | apply Kd.R_alloc | apply Kd.R_drewN | apply Kd.R_drew)); exact HO266.out) (Kd.R_base ho0) hb)
            have n4_ := Aside0.mk (Kd.V_elder' (by (with_reducible repeat (first | apply Kd.V_alloc | apply Kd.V_drewN | apply Kd.V_drew)); exact HO271.out) (Kd.R_base ho0) hb)
            have n5_ := Aside0.mk (Kd.V_elder' (by (with_reducible repeat (first | apply Kd.V_alloc | apply Kd.V_drewN | apply Kd.V_drew)); exact HO277.out) (Kd.R_base ho0) hb)
            have n6_ := Aside0.mk (Kd.V_elder' (by (with_reducible repeat (first | apply Kd.V_alloc | apply Kd.V_drewN | apply Kd.V_drew)); exact HO282.out) (Kd.R_base ho0) hb)
            have n7_ := Aside0.mk (Kd.N_elder' (by (with_reducible repeat (first | apply Kd.N_alloc | apply Kd.N_drewN | apply Kd.N_drew)); exact HO285.out) (Kd.R_base ho0) hb)
            have n8_ := Aside0.mk (Kd.R_lower (Kd.R_new' (Kd.R_new' (Kd.R_new' ho0 (Kd.R_lt (by (with_reducible repeat (first | apply Kd.R_alloc | apply Kd.R_drewN | apply Kd.R_drew)); exact HO254.out))) (Kd.R_lt (by (with_reducible repeat (first | apply Kd.R_alloc | apply Kd.R_drewN | apply Kd.R_drew)); exact HO257.out))) (Kd.R_lt (by (with_reducible repeat (first | apply Kd.R_alloc | apply Kd.R_drewN | apply Kd.R_drew)); exact HO266.out))) (below_size (by repeat (first | (with_reducible first | exact HB.out | apply below_alloc | apply pw_below_drewN | apply below_drew1) | exact HB.out))))
            have n9_ := Aside0.mk (below_step (by repeat (first | (with_reducible first | exact HB.out | apply below_alloc | apply pw_below_drewN | apply below_drew1) | exact HB.out)) hb)
            clear HO254
            clear HO262
            clear HO257
            clear HO266
            clear HO271
            clear HO277
            clear HO282
            clear HO285
            clear HB
            have HO254 := n0_
            have HO262 := n1_
            have HO257 := n2_
            have HO266 := n3_
            have HO271 := n4_
            have HO277 := n5_
            have HO282 := n6_
            have HO285 := n7_
            have HO288 := n8_
            have HB := n9_
            clear n0_ n1_ n2_ n3_ n4_ n5_ n6_ n7_ n8_ n9_
            (try clear hb)
            (try clear hb2)
            (try clear hk)
            (try clear hi)
            (try clear ho0)
            obtain ⟨Ao49, co49, eo49⟩ := Kd.R_slice HO288.out
            (first | subst eo49 | (injection eo49 with f1_ f2_ f3_; have f4_ := f1_.symm; have f5_ := f3_.symm; clear f1_ f2_ f3_; subst f4_; subst f5_))
            refine hK.out _ _ trivial (fun hHeld => ?_)
            clear hK K
            refine norm_ (a' := ?_) ?_ ?_
            rotate_left
            ·show Act.put _ (some 26) _ = _
             simp only [Act.put, List.setIfInBounds_toArray, List.set_cons_zero, List.set_cons_succ, i64_w, i32_w]
             rfl
            refine one_ (i := 20) (N := some 28) #[tt, tt, tt, tt, tt, tt, tt, tt, tt, tt, tt, tt, tt, tt, tt, tt, tt, tt, tt, tt, tt, ff, ff] rfl rfl (one_of HT_.out (by kernel_rfl)) (by decide) (fun K hK => ?_)
            refine goes_ Try.func13 (by kernel_rfl) rfl #[.slice Ao49 t286.length co49, .slice Ao37 y252.length co37] (by rfl) rfl rfl (by (try simp only [List.map_toArray, List.map_cons, List.map_nil]); first | done | rfl | (simp only [List.length_drop, List.length_take]; rfl)) ?_
            with_reducible refine (moultlaw12_same.calls k _ _ t286 _ _ y252 true _ ?side1 ?side2 ?side3 ?side4 A14.out).mono ?_
            (case side1 => repeat (first | exact (Kd.R_reads' HO288.out).2.2 | (with_reducible refine Kd.C_alloc ?_ _) | (with_reducible refine Kd.C_drewN ?_ _) | (with_reducible refine Kd.C_drew ?_)))
            (case side2 => exact (Kd.R_reads' HO288.out).2.1)
            (case side3 => repeat (first | exact (Kd.R_reads' HO254.out).2.2 | (with_reducible refine Kd.C_alloc ?_ _) | (with_reducible refine Kd.C_drewN ?_ _) | (with_reducible refine Kd.C_drew ?_)))
            (case side4 => exact (Kd.R_reads' HO254.out).2.1)
            rintro e w' ⟨rfl, ⟨nd, rfl⟩⟩
            refine ⟨_, rfl, ?_⟩
            refine hK.out _ _ trivial (fun hHeld => ?_)
            clear hK K
            refine norm_ (a' := ?_) ?_ ?_
            rotate_left
            ·show Act.put _ (some 28) _ = _
             simp only [Act.put, List.setIfInBounds_toArray, List.set_cons_zero, List.set_cons_succ, i64_w, i32_w]
             rfl
            refine pq_ (i := 21) (N := some 29) HT_ #[tt, tt, tt, tt, tt, tt, tt, tt, tt, tt, tt, tt, tt, tt, tt, tt, tt, tt, tt, tt, tt, tt, ff] ?_
            refine pq_ (i := 22) (N := some 2) HT_ #[tt, tt, tt, tt, tt, tt, tt, tt, tt, tt, tt, tt, tt, tt, tt, tt, tt, tt, tt, tt, tt, tt, tt] ?_
            refine done_ (done_of HT_.out (by kernel_rfl)) ?_
            try go_wp2
            (try (rw [drewN_self w48]; generalize hq_ : World.drewN w48 _ = w48; have n0_ : Aside0 (Kd.R k36 36 w48 w.heap.size (fun k_ => some k_ ≠ (.slice Ao39 t255.length co39 : Value).ownBlock ∧ some k_ ≠ (.slice Ao42 t264.length co42 : Value).ownBlock ∧ some k_ ≠ (.slice Ao49 t286.length co49 : Value).ownBlock) (.slice Ao37 y252.length co37) y252) := ⟨by rw [← hq_]; exact (by (with_reducible repeat (first | apply Kd.R_alloc | apply Kd.R_drewN | apply Kd.R_drew)); exact Kd.R_mono HO254.out (fun _ hk => ⟨hk.1.1.2, ⟨hk.1.2, hk.2⟩⟩))⟩; have n1_ : Aside0 (Kd.R k36 36 w48 w.heap.size (fun k_ => some k_ ≠ (.slice Ao37 y252.length co37 : Value).ownBlock ∧ some k_ ≠ (.slice Ao42 t264.length co42 : Value).ownBlock ∧ some k_ ≠ (.slice Ao49 t286.length co49 : Value).ownBlock) (.slice Ao39 t255.length co39) t255) := ⟨by rw [← hq_]; exact (by (with_reducible repeat (first | apply Kd.R_alloc | apply Kd.R_drewN | apply Kd.R_drew)); exact Kd.R_mono HO257.out (fun _ hk => ⟨hk.1.1.2, ⟨hk.1.2, hk.2⟩⟩))⟩; have n2_ : Aside0 (Kd.V k36 36 w48 w.heap.size (fun k_ => some k_ ≠ (.slice Ao39 t255.length co39 : Value).ownBlock ∧ some k_ ≠ (.slice Ao42 t264.length co42 : Value).ownBlock ∧ some k_ ≠ (.slice Ao47 y283.length co47 : Value).ownBlock ∧ some k_ ≠ (.slice Ao49 t286.length co49 : Value).ownBlock) (.slice A36 y258.length c36) y258) := ⟨by rw [← hq_]; exact (by (with_reducible repeat (first | apply Kd.V_alloc | apply Kd.V_drewN | apply Kd.V_drew)); exact Kd.V_mono HO262.out (fun _ hk => ⟨hk.1.1.1.2, ⟨hk.1.1.2, ⟨hk.1.2, hk.2⟩⟩⟩))⟩; have n3_ : Aside0 (Kd.R k36 36 w48 w.heap.size (fun k_ => some k_ ≠ (.slice Ao37 y252.length co37 : Value).ownBlock ∧ some k_ ≠ (.slice Ao39 t255.length co39 : Value).ownBlock ∧ some k_ ≠ (.slice Ao49 t286.length co49 : Value).ownBlock) (.slice Ao42 t264.length co42) t264) := ⟨by rw [← hq_]; exact (by (with_reducible repeat (first | apply Kd.R_alloc | apply Kd.R_drewN | apply Kd.R_drew)); exact Kd.R_mono HO266.out (fun _ hk => ⟨hk.1.1.2, ⟨hk.1.2, hk.2⟩⟩))⟩; have n4_ : Aside0 (Kd.V k36 36 w48 w.heap.size (fun k_ => some k_ ≠ (.slice Ao39 t255.length co39 : Value).ownBlock ∧ some k_ ≠ (.slice Ao42 t264.length co42 : Value).ownBlock ∧ some k_ ≠ (.slice Ao47 y283.length co47 : Value).ownBlock ∧ some k_ ≠ (.slice Ao49 t286.length co49 : Value).ownBlock) (.slice A41 y267.length c41) y267) := ⟨by rw [← hq_]; exact (by (with_reducible repeat (first | apply Kd.V_alloc | apply Kd.V_drewN | apply Kd.V_drew)); exact Kd.V_mono HO271.out (fun _ hk => by first | exact ⟨hk.1.1.1.2, ⟨hk.1.1.2, ⟨hk.1.2, hk.2⟩⟩⟩ | (have h_ := hk; simp only [and_assoc] at h_ ⊢; (repeat' apply And.intro) <;> (first | exact h_.1 | exact h_ | exact h_.2.1 | exact h_.2 | exact h_.2.2.1 | exact h_.2.2 | exact h_.2.2.2.1 | exact h_.2.2.2 | exact h_.2.2.2.2.1 | exact h_.2.2.2.2 | exact h_.2.2.2.2.2.1 | exact h_.2.2.2.2.2 | exact h_.2.2.2.2.2.2.1 | exact h_.2.2.2.2.2.2 | exact h_.2.2.2.2.2.2.2.1 | exact h_.2.2.2.2.2.2.2 | exact h_.2.2.2.2.2.2.2.2.1 | exact h_.2.2.2.2.2.2.2.2 | exact h_.2.2.2.2.2.2.2.2.2.1 | exact h_.2.2.2.2.2.2.2.2.2 | exact h_.2.2.2.2.2.2.2.2.2.2.1 | exact h_.2.2.2.2.2.2.2.2.2.2 | exact h_.2.2.2.2.2.2.2.2.2.2.2.1 | exact h_.2.2.2.2.2.2.2.2.2.2.2))))⟩; have n5_ : Aside0 (Kd.V k36 36 w48 w.heap.size (fun k_ => some k_ ≠ (.slice Ao39 t255.length co39 : Value).ownBlock ∧ some k_ ≠ (.slice Ao42 t264.length co42 : Value).ownBlock ∧ some k_ ≠ (.slice Ao47 y283.length co47 : Value).ownBlock ∧ some k_ ≠ (.slice Ao49 t286.length co49 : Value).ownBlock) (.slice A43 y273.length c43) y273) := ⟨by rw [← hq_]; exact (by (with_reducible repeat (first | apply Kd.V_alloc | apply Kd.V_drewN | apply Kd.V_drew)); exact Kd.V_mono HO277.out (fun _ hk => ⟨hk.1.1.1.2, ⟨hk.1.1.2, ⟨hk.1.2, hk.2⟩⟩⟩))⟩; have n6_ : Aside0 (Kd.V k36 36 w48 w.heap.size (fun k_ => some k_ ≠ (.slice Ao39 t255.length co39 : Value).ownBlock ∧ some k_ ≠ (.slice Ao42 t264.length co42 : Value).ownBlock ∧ some k_ ≠ (.slice Ao47 y283.length co47 : Value).ownBlock ∧ some k_ ≠ (.slice Ao49 t286.length co49 : Value).ownBlock) (.slice Ao37 y278.length co37) y278) := ⟨by rw [← hq_]; exact (by (with_reducible repeat (first | apply Kd.V_alloc | apply Kd.V_drewN | apply Kd.V_drew)); exact Kd.V_mono HO282.out (fun _ hk => ⟨hk.1.1.1.2, ⟨hk.1.1.2, ⟨hk.1.2, hk.2⟩⟩⟩))⟩; have n7_ : Aside0 (Kd.N (Kd.slice 36 k36) 27 w48 w.heap.size (fun k_ => some k_ ≠ (.slice Ao39 t255.length co39 : Value).ownBlock ∧ some k_ ≠ (.slice Ao42 t264.length co42 : Value).ownBlock ∧ some k_ ≠ (.slice Ao49 t286.length co49 : Value).ownBlock) (.slice Ao47 y283.length co47) y283) := ⟨by rw [← hq_]; exact (by (with_reducible repeat (first | apply Kd.N_alloc | apply Kd.N_drewN | apply Kd.N_drew)); exact Kd.N_mono HO285.out (fun _ hk => ⟨hk.1.1, ⟨hk.1.2, hk.2⟩⟩))⟩; have n8_ : Aside0 (Kd.R k36 36 w48 w.heap.size (fun k_ => some k_ ≠ (.slice Ao37 y252.length co37 : Value).ownBlock ∧ some k_ ≠ (.slice Ao39 t255.length co39 : Value).ownBlock ∧ some k_ ≠ (.slice Ao42 t264.length co42 : Value).ownBlock) (.slice Ao49 t286.length co49) t286) := ⟨by rw [← hq_]; exact (by (with_reducible repeat (first | apply Kd.R_alloc | apply Kd.R_drewN | apply Kd.R_drew)); exact Kd.R_mono HO288.out (fun _ hk => ⟨hk.1.1.2, ⟨hk.1.2, hk.2⟩⟩))⟩; have n9_ : Aside0 (Below w.heap.size w w48) := ⟨by rw [← hq_]; exact (by repeat (first | (with_reducible first | exact HB.out | apply below_alloc | apply pw_below_drewN | apply below_drew1) | exact HB.out))⟩; clear HO254 HO257 HO262 HO266 HO271 HO277 HO282 HO285 HO288 HB hq_; have HO254 := n0_; have HO257 := n1_; have HO262 := n2_; have HO266 := n3_; have HO271 := n4_; have HO277 := n5_; have HO282 := n6_; have HO285 := n7_; have HO288 := n8_; have HB := n9_; clear n0_ n1_ n2_ n3_ n4_ n5_ n6_ n7_ n8_ n9_))
            have n0_ := Aside0.mk (Kd.R_drew HO254.out)
            have n1_ := Aside0.mk (Kd.V_drew HO262.out)
            have n2_ := Aside0.mk (Kd.R_drew HO257.out)
            have n3_ := Aside0.mk (Kd.R_drew HO266.out)
            have n4_ := Aside0.mk (Kd.V_drew HO271.out)
            have n5_ := Aside0.mk (Kd.V_drew HO277.out)
            have n6_ := Aside0.mk (Kd.V_drew HO282.out)
            have n7_ := Aside0.mk (Kd.N_drew HO285.out)
            have n8_ := Aside0.mk (Kd.R_drew HO288.out)
            have n9_ := Aside0.mk (below_drew1 HB.out)
            clear HO254
            clear HO262
            clear HO257
            clear HO266
            clear HO271
            clear HO277
            clear HO282
            clear HO285
            clear HO288
            clear HB
            have HO254 := n0_
            have HO262 := n1_
            have HO257 := n2_
            have HO266 := n3_
            have HO271 := n4_
            have HO277 := n5_
            have HO282 := n6_
            have HO285 := n7_
            have HO288 := n8_
            have HB := n9_
            clear n0_ n1_ n2_ n3_ n4_ n5_ n6_ n7_ n8_ n9_
            have p293 : 0 ≤ (0 : Int) := (by omega)
            have q293 : 0 < (y252.length : Int) := of_decide_eq_true (by first | (with_reducible assumption) | assumption)
            obtain ⟨ad293, e293, hx293_0, hx293_1, hx293_2, hx293_3⟩ := at_T36 (Kd.R_reads' HO254.out).2.2 0 p293 q293
            cases e293
            have qi293 : (0 < y252.length) = True := eq_true (by omega)
            (try rw [show ((0 : Int)).toNat = 0 from rfl] at hx293_0)
            (try rw [show 0 * 4 = 0 from rfl] at hx293_0)
            (try rw [Addr.add_zero'] at hx293_0)
            (try rw [show ((0 : Int)).toNat = 0 from rfl] at hx293_1)
            (try rw [show 0 * 4 = 0 from rfl] at hx293_1)
            (try rw [Addr.add_zero'] at hx293_1)
            (try rw [show ((0 : Int)).toNat = 0 from rfl] at hx293_2)
            (try rw [show 0 * 4 = 0 from rfl] at hx293_2)
            (try rw [Addr.add_zero'] at hx293_2)
            (try rw [show ((0 : Int)).toNat = 0 from rfl] at hx293_3)
            (try rw [show 0 * 4 = 0 from rfl] at hx293_3)
            (try rw [Addr.add_zero'] at hx293_3)
            replace p293 := eq_true p293
            replace q293 := eq_true q293
            have p294 : 0 ≤ (2 : Int) := (by omega)
            have q294 : 2 < (y252.length : Int) := of_decide_eq_true (by first | (with_reducible assumption) | assumption)
            obtain ⟨ad294, e294, hx294_0, hx294_1, hx294_2, hx294_3⟩ := at_T36 (Kd.R_reads' HO254.out).2.2 2 p294 q294
            obtain rfl : ad293 = ad294 := (by injection e294)
            (try simp only [show (2 : Int).toNat = 2 from rfl, Nat.reduceMul, Nat.reduceEqDiff, Go.Addr.add, ↓reduceIte] at hx294_0)
            (try simp only [show (2 : Int).toNat = 2 from rfl, Nat.reduceMul, Nat.reduceEqDiff, Go.Addr.add, ↓reduceIte] at hx294_1)
            (try simp only [show (2 : Int).toNat = 2 from rfl, Nat.reduceMul, Nat.reduceEqDiff, Go.Addr.add, ↓reduceIte] at hx294_2)
            (try simp only [show (2 : Int).toNat = 2 from rfl, Nat.reduceMul, Nat.reduceEqDiff, Go.Addr.add, ↓reduceIte] at hx294_3)
            have qi294 : (2 < y252.length) = True := eq_true (by omega)
            (try rw [show ((2 : Int)).toNat = 2 from rfl] at hx294_0)
            (try rw [show 2 * 4 = 8 from rfl] at hx294_0)
            (try rw [show ((2 : Int)).toNat = 2 from rfl] at hx294_1)
            (try rw [show 2 * 4 = 8 from rfl] at hx294_1)
            (try rw [show ((2 : Int)).toNat = 2 from rfl] at hx294_2)
            (try rw [show 2 * 4 = 8 from rfl] at hx294_2)
            (try rw [show ((2 : Int)).toNat = 2 from rfl] at hx294_3)
            (try rw [show 2 * 4 = 8 from rfl] at hx294_3)
            replace p294 := eq_true p294
            replace q294 := eq_true q294
            refine start_ (n := 25) (S := fun w' => w'.cell? ad293 = some (.string ((rd_T36 y252 0).f0)) ∧ w'.cell? ⟨ad293.block, ad293.off + 1, none⟩ = some (.int .i64 ((rd_T36 y252 0).f1)) ∧ w'.cell? ⟨ad293.block, ad293.off + 2, none⟩ = some (.bool ((rd_T36 y252 0).f2)) ∧ w'.cell? ⟨ad293.block, ad293.off + 3, none⟩ = some (.string ((rd_T36 y252 0).f3)) ∧ w'.cell? ⟨ad293.block, ad293.off + 8, none⟩ = some (.string ((rd_T36 y252 2).f0)) ∧ w'.cell? ⟨ad293.block, ad293.off + 8 + 1, none⟩ = some (.int .i64 ((rd_T36 y252 2).f1)) ∧ w'.cell? ⟨ad293.block, ad293.off + 8 + 2, none⟩ = some (.bool ((rd_T36 y252 2).f2)) ∧ w'.cell? ⟨ad293.block, ad293.off + 8 + 3, none⟩ = some (.string ((rd_T36 y252 2).f3))) (ds := []) #[ff, ff, ff, ff, ff, ff, ff, ff, ff, ff, ff, ff, ff, ff, ff, ff, ff, ff, ff, ff, ff, ff, ff, ff, ff] (by kernel_rfl) rfl rfl ⟨hx293_0, hx293_1, hx293_2, hx293_3, hx294_0, hx294_1, hx294_2, hx294_3⟩ (fun hHeld => ?_); refine with_tabW moultlaw12_shown.tab3 moultlaw12_shown.bits3 (fun HT_ HW_ => ?_)
            generalize w48.drew = w50 at HO254 HO262 HO257 HO266 HO271 HO277 HO282 HO285 HO288 HB hx293_0 hx293_1 hx293_2 hx293_3 hx294_0 hx294_1 hx294_2 hx294_3 hHeld ⊢
            refine pq_ (i := 0) (N := some 30) HT_ #[tt, ff, ff, ff, ff, ff, ff, ff, ff, ff, ff, ff, ff, ff, ff, ff, ff, ff, ff, ff, ff, ff, ff, ff, ff] ?_
            refine pq_ (i := 2) (N := some 32) HT_ #[tt, ff, tt, ff, ff, ff, ff, ff, ff, ff, ff, ff, ff, ff, ff, ff, ff, ff, ff, ff, ff, ff, ff, ff, ff] ?_
            refine pq_ (i := 3) (N := some 33) HT_ #[tt, ff, tt, tt, ff, ff, ff, ff, ff, ff, ff, ff, ff, ff, ff, ff, ff, ff, ff, ff, ff, ff, ff, ff, ff] ?_
            refine pq_ (i := 5) (N := some 35) HT_ #[tt, ff, tt, tt, ff, tt, ff, ff, ff, ff, ff, ff, ff, ff, ff, ff, ff, ff, ff, ff, ff, ff, ff, ff, ff] ?_
            refine pq_ (i := 6) (N := some 36) HT_ #[tt, ff, tt, tt, ff, tt, tt, ff, ff, ff, ff, ff, ff, ff, ff, ff, ff, ff, ff, ff, ff, ff, ff, ff, ff] ?_
            refine take_ (i := 4) (N := some 34) (v := ?_) (a' := ?_) #[tt, ff, tt, tt, tt, tt, tt, ff, ff, ff, ff, ff, ff, ff, ff, ff, ff, ff, ff, ff, ff, ff, ff, ff, ff] rfl rfl (take_ofW HT_.out HW_.out (by kernel_rfl)) (fun _ _ _ h => h) (Or.inl ⟨by rfl, ?_⟩) hHeld ?_ ?_
            rotate_left
            ·rintro w' ⟨s0, s1, s2, s3, s4, s5, s6, s7⟩
             go_simp
             with_reducible rfl
            rotate_left
            ·simp only [Act.put, List.setIfInBounds_toArray, List.set_cons_zero, List.set_cons_succ, i64_w, i32_w]
             rfl
            refine take_ (i := 7) (N := some 37) (v := ?_) (a' := ?_) #[tt, ff, tt, tt, tt, tt, tt, tt, ff, ff, ff, ff, ff, ff, ff, ff, ff, ff, ff, ff, ff, ff, ff, ff, ff] rfl rfl (take_ofW HT_.out HW_.out (by kernel_rfl)) (fun _ _ _ h => h) (Or.inl ⟨by rfl, ?_⟩) hHeld ?_ ?_
            rotate_left
            ·rintro w' ⟨s0, s1, s2, s3, s4, s5, s6, s7⟩
             go_simp
             with_reducible rfl
            rotate_left
            ·simp only [Act.put, List.setIfInBounds_toArray, List.set_cons_zero, List.set_cons_succ, i64_w, i32_w]
             rfl
            refine join_ (σ := Value × Value) 16 #[tt, tt, tt, tt, tt, tt, tt, tt, tt, ff, ff, ff, ff, ff, ff, ff, ff, ff, ff, ff, ff, ff, ff, ff, ff] (fun s_ => [(31, s_.1), (38, s_.2)]) (fun s_ w' => (w'.cell? ad293 = some (.string ((rd_T36 y252 0).f0)) ∧ w'.cell? ⟨ad293.block, ad293.off + 1, none⟩ = some (.int .i64 ((rd_T36 y252 0).f1)) ∧ w'.cell? ⟨ad293.block, ad293.off + 2, none⟩ = some (.bool ((rd_T36 y252 0).f2)) ∧ w'.cell? ⟨ad293.block, ad293.off + 3, none⟩ = some (.string ((rd_T36 y252 0).f3)) ∧ w'.cell? ⟨ad293.block, ad293.off + 8, none⟩ = some (.string ((rd_T36 y252 2).f0)) ∧ w'.cell? ⟨ad293.block, ad293.off + 8 + 1, none⟩ = some (.int .i64 ((rd_T36 y252 2).f1)) ∧ w'.cell? ⟨ad293.block, ad293.off + 8 + 2, none⟩ = some (.bool ((rd_T36 y252 2).f2)) ∧ w'.cell? ⟨ad293.block, ad293.off + 8 + 3, none⟩ = some (.string ((rd_T36 y252 2).f3))) ∧ (Kd.R k36 36 w' w.heap.size (fun k_ => some k_ ≠ (.slice Ao39 t255.length co39 : Value).ownBlock ∧ some k_ ≠ (.slice Ao42 t264.length co42 : Value).ownBlock ∧ some k_ ≠ (.slice Ao49 t286.length co49 : Value).ownBlock ∧ some k_ ≠ (s_.1 : Value).ownBlock ∧ some k_ ≠ (s_.2 : Value).ownBlock) (.slice (some ad293) y252.length co37) y252) ∧ (Kd.R k36 36 w' w.heap.size (fun k_ => some k_ ≠ (.slice (some ad293) y252.length co37 : Value).ownBlock ∧ some k_ ≠ (.slice Ao42 t264.length co42 : Value).ownBlock ∧ some k_ ≠ (.slice Ao49 t286.length co49 : Value).ownBlock ∧ some k_ ≠ (s_.1 : Value).ownBlock ∧ some k_ ≠ (s_.2 : Value).ownBlock) (.slice Ao39 t255.length co39) t255) ∧ (Kd.V k36 36 w' w.heap.size (fun k_ => some k_ ≠ (.slice Ao39 t255.length co39 : Value).ownBlock ∧ some k_ ≠ (.slice Ao42 t264.length co42 : Value).ownBlock ∧ some k_ ≠ (.slice Ao47 y283.length co47 : Value).ownBlock ∧ some k_ ≠ (.slice Ao49 t286.length co49 : Value).ownBlock ∧ some k_ ≠ (s_.1 : Value).ownBlock ∧ some k_ ≠ (s_.2 : Value).ownBlock) (.slice A36 y258.length c36) y258) ∧ (Kd.R k36 36 w' w.heap.size (fun k_ => some k_ ≠ (.slice (some ad293) y252.length co37 : Value).ownBlock ∧ some k_ ≠ (.slice Ao39 t255.length co39 : Value).ownBlock ∧ some k_ ≠ (.slice Ao49 t286.length co49 : Value).ownBlock ∧ some k_ ≠ (s_.1 : Value).ownBlock ∧ some k_ ≠ (s_.2 : Value).ownBlock) (.slice Ao42 t264.length co42) t264) ∧ (Kd.V k36 36 w' w.heap.size (fun k_ => some k_ ≠ (.slice Ao39 t255.length co39 : Value).ownBlock ∧ some k_ ≠ (.slice Ao42 t264.length co42 : Value).ownBlock ∧ some k_ ≠ (.slice Ao47 y283.length co47 : Value).ownBlock ∧ some k_ ≠ (.slice Ao49 t286.length co49 : Value).ownBlock ∧ some k_ ≠ (s_.1 : Value).ownBlock ∧ some k_ ≠ (s_.2 : Value).ownBlock) (.slice A41 y267.length c41) y267) ∧ (Kd.V k36 36 w' w.heap.size (fun k_ => some k_ ≠ (.slice Ao39 t255.length co39 : Value).ownBlock ∧ some k_ ≠ (.slice Ao42 t264.length co42 : Value).ownBlock ∧ some k_ ≠ (.slice Ao47 y283.length co47 : Value).ownBlock ∧ some k_ ≠ (.slice Ao49 t286.length co49 : Value).ownBlock ∧ some k_ ≠ (s_.1 : Value).ownBlock ∧ some k_ ≠ (s_.2 : Value).ownBlock) (.slice A43 y273.length c43) y273) ∧ (Kd.V k36 36 w' w.heap.size (fun k_ => some k_ ≠ (.slice Ao39 t255.length co39 : Value).ownBlock ∧ some k_ ≠ (.slice Ao42 t264.length co42 : Value).ownBlock ∧ some k_ ≠ (.slice Ao47 y283.length co47 : Value).ownBlock ∧ some k_ ≠ (.slice Ao49 t286.length co49 : Value).ownBlock ∧ some k_ ≠ (s_.1 : Value).ownBlock ∧ some k_ ≠ (s_.2 : Value).ownBlock) (.slice (some ad293) y278.length co37) y278) ∧ (Kd.N (Kd.slice 36 k36) 27 w' w.heap.size (fun k_ => some k_ ≠ (.slice Ao39 t255.length co39 : Value).ownBlock ∧ some k_ ≠ (.slice Ao42 t264.length co42 : Value).ownBlock ∧ some k_ ≠ (.slice Ao49 t286.length co49 : Value).ownBlock ∧ some k_ ≠ (s_.1 : Value).ownBlock ∧ some k_ ≠ (s_.2 : Value).ownBlock) (.slice Ao47 y283.length co47) y283) ∧ (Kd.R k36 36 w' w.heap.size (fun k_ => some k_ ≠ (.slice (some ad293) y252.length co37 : Value).ownBlock ∧ some k_ ≠ (.slice Ao39 t255.length co39 : Value).ownBlock ∧ some k_ ≠ (.slice Ao42 t264.length co42 : Value).ownBlock ∧ some k_ ≠ (s_.1 : Value).ownBlock ∧ some k_ ≠ (s_.2 : Value).ownBlock) (.slice Ao49 t286.length co49) t286) ∧ (Kd.R k36 36 w' w.heap.size (fun k_ => some k_ ≠ (.slice (some ad293) y252.length co37 : Value).ownBlock ∧ some k_ ≠ (.slice Ao39 t255.length co39 : Value).ownBlock ∧ some k_ ≠ (.slice Ao42 t264.length co42 : Value).ownBlock ∧ some k_ ≠ (.slice Ao49 t286.length co49 : Value).ownBlock ∧ some k_ ≠ (s_.2 : Value).ownBlock) s_.1 t290) ∧ (Kd.R k36 36 w' w.heap.size (fun k_ => some k_ ≠ (.slice (some ad293) y252.length co37 : Value).ownBlock ∧ some k_ ≠ (.slice Ao39 t255.length co39 : Value).ownBlock ∧ some k_ ≠ (.slice Ao42 t264.length co42 : Value).ownBlock ∧ some k_ ≠ (.slice Ao49 t286.length co49 : Value).ownBlock ∧ some k_ ≠ (s_.1 : Value).ownBlock) s_.2 y295) ∧ (Below w.heap.size w w')) ?_ ?_
            rotate_left
            ·intro hCont
             refine two_ (i := 1) (j := 8) (Ni := some 31) (Nj := some 38) #[tt, tt, tt, tt, tt, tt, tt, tt, ff, ff, ff, ff, ff, ff, ff, ff, ff, ff, ff, ff, ff, ff, ff, ff, ff] #[tt, ff, tt, tt, tt, tt, tt, tt, tt, ff, ff, ff, ff, ff, ff, ff, ff, ff, ff, ff, ff, ff, ff, ff, ff] rfl rfl rfl rfl (two_of HT_.out (by kernel_rfl)) (by decide) (by decide) (fun K hK => ?_) (fun K hK => ?_)
             ·skip
              refine goes_ Try.func16 (by kernel_rfl) rfl #[.slice (some ad293) y252.length co37, .slice none 0 0, .bool false] (by rfl) rfl rfl (by (try simp only [List.map_toArray, List.map_cons, List.map_nil]); first | done | rfl | (simp only [List.length_drop, List.length_take]; rfl)) ?_
              refine (merge_Thin.calls k _ _ y252 _ _ ([] : List Int) false t290 _ ?side1 ?side2 ?side3 ?side4 A15.out).mono ?_
              (case side1 => repeat (first | exact (Kd.R_reads' HO254.out).2.2 | (with_reducible refine Kd.C_alloc ?_ _) | (with_reducible refine Kd.C_drewN ?_ _) | (with_reducible refine Kd.C_drew ?_)))
              (case side2 => exact (Kd.R_reads' HO254.out).2.1)
              (case side3 => exact Kd.C_nil _ _)
              (case side4 => exact Nat.le_refl _)
              rintro e w51 ⟨v291, rfl, ho0, hb⟩
              have HS0_ := (hb.cell (World.block_lt_of_cell? _ _ (hHeld.1))).trans (hHeld.1)
              have HS1_ := (hb.cell (World.block_lt_of_cell? _ _ (hHeld.2.1))).trans (hHeld.2.1)
              have HS2_ := (hb.cell (World.block_lt_of_cell? _ _ (hHeld.2.2.1))).trans (hHeld.2.2.1)
              have HS3_ := (hb.cell (World.block_lt_of_cell? _ _ (hHeld.2.2.2.1))).trans (hHeld.2.2.2.1)
              have HS4_ := (hb.cell (World.block_lt_of_cell? _ _ (hHeld.2.2.2.2.1))).trans (hHeld.2.2.2.2.1)
              have HS5_ := (hb.cell (World.block_lt_of_cell? _ _ (hHeld.2.2.2.2.2.1))).trans (hHeld.2.2.2.2.2.1)
              have HS6_ := (hb.cell (World.block_lt_of_cell? _ _ (hHeld.2.2.2.2.2.2.1))).trans (hHeld.2.2.2.2.2.2.1)
              have HS7_ := (hb.cell (World.block_lt_of_cell? _ _ (hHeld.2.2.2.2.2.2.2))).trans (hHeld.2.2.2.2.2.2.2)
              refine ⟨_, rfl, ?_⟩
              have n0_ := Aside0.mk (Kd.R_elder' (by (with_reducible repeat (first | apply Kd.R_alloc | apply Kd.R_drewN | apply Kd.R_drew)); exact HO254.out) (Kd.R_base ho0) hb)
              have n1_ := Aside0.mk (Kd.V_elder' (by (with_reducible repeat (first | apply Kd.V_alloc | apply Kd.V_drewN | apply Kd.V_drew)); exact HO262.out) (Kd.R_base ho0) hb)
              have n2_ := Aside0.mk (Kd.R_elder' (by (with_reducible repeat (first | apply Kd.R_alloc | apply Kd.R_drewN | apply Kd.R_drew)); exact HO257.out) (Kd.R_base ho0) hb)
              have n3_ := Aside0.mk (Kd.R_elder' (by (with_reducible repeat (first | apply Kd.R_alloc | apply Kd.R_drewN | apply Kd.R_drew)); exact HO266.out) (Kd.R_base ho0) hb)
              have n4_ := Aside0.mk (Kd.V_elder' (by (with_reducible repeat (first | apply Kd.V_alloc | apply Kd.V_drewN | apply Kd.V_drew)); exact HO271.out) (Kd.R_base ho0) hb)
              have n5_ := Aside0.mk (Kd.V_elder' (by (with_reducible repeat (first | apply Kd.V_alloc | apply Kd.V_drewN | apply Kd.V_drew)); exact HO277.out) (Kd.R_base ho0) hb)
              have n6_ := Aside0.mk (Kd.V_elder' (by (with_reducible repeat (first | apply Kd.V_alloc | apply Kd.V_drewN | apply Kd.V_drew)); exact HO282.out) (Kd.R_base ho0) hb)
              have n7_ := Aside0.mk (Kd.N_elder' (by (with_reducible repeat (first | apply Kd.N_alloc | apply Kd.N_drewN | apply Kd.N_drew)); exact HO285.out) (Kd.R_base ho0) hb)
              have n8_ := Aside0.mk (Kd.R_elder' (by (with_reducible repeat (first | apply Kd.R_alloc | apply Kd.R_drewN | apply Kd.R_drew)); exact HO288.out) (Kd.R_base ho0) hb)
              have n9_ := Aside0.mk (Kd.R_lower (Kd.R_new' (Kd.R_new' (Kd.R_new' (Kd.R_new' ho0 (Kd.R_lt (by (with_reducible repeat (first | apply Kd.R_alloc | apply Kd.R_drewN | apply Kd.R_drew)); exact HO254.out))) (Kd.R_lt (by (with_reducible repeat (first | apply Kd.R_alloc | apply Kd.R_drewN | apply Kd.R_drew)); exact HO257.out))) (Kd.R_lt (by (with_reducible repeat (first | apply Kd.R_alloc | apply Kd.R_drewN | apply Kd.R_drew)); exact HO266.out))) (Kd.R_lt (by (with_reducible repeat (first | apply Kd.R_alloc | apply Kd.R_drewN | apply Kd.R_drew)); exact HO288.out))) (below_size (by repeat (first | (with_reducible first | exact HB.out | apply below_alloc | apply pw_below_drewN | apply below_drew1) | exact HB.out))))
              have n10_ := Aside0.mk (below_step (by repeat (first | (with_reducible first | exact HB.out | apply below_alloc | apply pw_below_drewN | apply below_drew1) | exact HB.out)) hb)
              clear HO254
              clear HO262
              clear HO257
              clear HO266
              clear HO271
              clear HO277
              clear HO282
              clear HO285
              clear HO288
              clear HB
              have HO254 := n0_
              have HO262 := n1_
              have HO257 := n2_
              have HO266 := n3_
              have HO271 := n4_
              have HO277 := n5_
              have HO282 := n6_
              have HO285 := n7_
              have HO288 := n8_
              have HO292 := n9_
              have HB := n10_
              clear n0_ n1_ n2_ n3_ n4_ n5_ n6_ n7_ n8_ n9_ n10_
              (try clear hb)
              (try clear hb2)
              (try clear hk)
              (try clear hi)
              (try clear ho0)
              refine hK.out _ _ ⟨HS0_, HS1_, HS2_, HS3_, HS4_, HS5_, HS6_, HS7_⟩ (fun hHeld => ?_)
              clear hK K
              refine norm_ (a' := ?_) ?_ ?_
              rotate_left
              ·show Act.put _ (some 31) _ = _
               simp only [Act.put, List.setIfInBounds_toArray, List.set_cons_zero, List.set_cons_succ, i64_w, i32_w]
               rfl
              refine one_ (i := 8) (N := some 38) #[tt, tt, tt, tt, tt, tt, tt, tt, tt, ff, ff, ff, ff, ff, ff, ff, ff, ff, ff, ff, ff, ff, ff, ff, ff] rfl rfl (one_of HT_.out (by kernel_rfl)) (by decide) (fun K hK => ?_)
              refine Kd.R_lit_step k36 _ 36 ?hg (N := 38) ?hd (xs := ([(⟨(rd_T36 y252 0).f0, (rd_T36 y252 0).f1, (rd_T36 y252 0).f2, (rd_T36 y252 0).f3⟩ : S36), (⟨(rd_T36 y252 2).f0, (rd_T36 y252 2).f1, (rd_T36 y252 2).f2, (rd_T36 y252 2).f3⟩ : S36)] : List (S36))) (inner := [.string ((rd_T36 y252 0).f0), .int .i64 ((rd_T36 y252 0).f1), .bool ((rd_T36 y252 0).f2), .string ((rd_T36 y252 0).f3), .string ((rd_T36 y252 2).f0), .int .i64 ((rd_T36 y252 2).f1), .bool ((rd_T36 y252 2).f2), .string ((rd_T36 y252 2).f3)]) (ok := fun _ => True) (okp := fun _ => True) ?hr ?hp (fun _ hk => hk) trivial (Below.refl _ _) (Nat.le_refl _) (by simp) ?_; (case hd => rfl); (case hg => rfl); (case hr => first | (go_simp; done) | (go_simp; rfl)); (case hp => exact (Reps.c4 (show Kd.M k36 _ _ _ (⟨(rd_T36 y252 0).f0, (rd_T36 y252 0).f1, (rd_T36 y252 0).f2, (rd_T36 y252 0).f3⟩ : S36) [.string ((rd_T36 y252 0).f0), .int .i64 ((rd_T36 y252 0).f1), .bool ((rd_T36 y252 0).f2), .string ((rd_T36 y252 0).f3)] from (k36_mkM _ _ _ (⟨(rd_T36 y252 0).f0, (rd_T36 y252 0).f1, (rd_T36 y252 0).f2, (rd_T36 y252 0).f3⟩ : S36) )) (Reps.c4 (show Kd.M k36 _ _ _ (⟨(rd_T36 y252 2).f0, (rd_T36 y252 2).f1, (rd_T36 y252 2).f2, (rd_T36 y252 2).f3⟩ : S36) [.string ((rd_T36 y252 2).f0), .int .i64 ((rd_T36 y252 2).f1), .bool ((rd_T36 y252 2).f2), .string ((rd_T36 y252 2).f3)] from (k36_mkM _ _ _ (⟨(rd_T36 y252 2).f0, (rd_T36 y252 2).f1, (rd_T36 y252 2).f2, (rd_T36 y252 2).f3⟩ : S36) )) (Reps.none _ _))))
              intro v296 w52 ho53 hb hg_ hnew_
              have HS0_ := (hb.cell (World.block_lt_of_cell? _ _ (hHeld.1))).trans (hHeld.1)
              have HS1_ := (hb.cell (World.block_lt_of_cell? _ _ (hHeld.2.1))).trans (hHeld.2.1)
              have HS2_ := (hb.cell (World.block_lt_of_cell? _ _ (hHeld.2.2.1))).trans (hHeld.2.2.1)
              have HS3_ := (hb.cell (World.block_lt_of_cell? _ _ (hHeld.2.2.2.1))).trans (hHeld.2.2.2.1)
              have HS4_ := (hb.cell (World.block_lt_of_cell? _ _ (hHeld.2.2.2.2.1))).trans (hHeld.2.2.2.2.1)
              have HS5_ := (hb.cell (World.block_lt_of_cell? _ _ (hHeld.2.2.2.2.2.1))).trans (hHeld.2.2.2.2.2.1)
              have HS6_ := (hb.cell (World.block_lt_of_cell? _ _ (hHeld.2.2.2.2.2.2.1))).trans (hHeld.2.2.2.2.2.2.1)
              have HS7_ := (hb.cell (World.block_lt_of_cell? _ _ (hHeld.2.2.2.2.2.2.2))).trans (hHeld.2.2.2.2.2.2.2)
              clear hg_ hnew_
              (first | rw [← Ny295.out] at ho53 | (simp only [Int.reduceToNat] at ho53; rw [← Ny295.out] at ho53))
              have n0_ := Aside0.mk (Kd.R_elder' (by (with_reducible repeat (first | apply Kd.R_alloc | apply Kd.R_drewN | apply Kd.R_drew)); exact HO254.out) (Kd.R_base ho53) hb)
              have n1_ := Aside0.mk (Kd.V_elder' (by (with_reducible repeat (first | apply Kd.V_alloc | apply Kd.V_drewN | apply Kd.V_drew)); exact HO262.out) (Kd.R_base ho53) hb)
              have n2_ := Aside0.mk (Kd.R_elder' (by (with_reducible repeat (first | apply Kd.R_alloc | apply Kd.R_drewN | apply Kd.R_drew)); exact HO257.out) (Kd.R_base ho53) hb)
              have n3_ := Aside0.mk (Kd.R_elder' (by (with_reducible repeat (first | apply Kd.R_alloc | apply Kd.R_drewN | apply Kd.R_drew)); exact HO266.out) (Kd.R_base ho53) hb)
              have n4_ := Aside0.mk (Kd.V_elder' (by (with_reducible repeat (first | apply Kd.V_alloc | apply Kd.V_drewN | apply Kd.V_drew)); exact HO271.out) (Kd.R_base ho53) hb)
              have n5_ := Aside0.mk (Kd.V_elder' (by (with_reducible repeat (first | apply Kd.V_alloc | apply Kd.V_drewN | apply Kd.V_drew)); exact HO277.out) (Kd.R_base ho53) hb)
              have n6_ := Aside0.mk (Kd.V_elder' (by (with_reducible repeat (first | apply Kd.V_alloc | apply Kd.V_drewN | apply Kd.V_drew)); exact HO282.out) (Kd.R_base ho53) hb)
              have n7_ := Aside0.mk (Kd.N_elder' (by (with_reducible repeat (first | apply Kd.N_alloc | apply Kd.N_drewN | apply Kd.N_drew)); exact HO285.out) (Kd.R_base ho53) hb)
              have n8_ := Aside0.mk (Kd.R_elder' (by (with_reducible repeat (first | apply Kd.R_alloc | apply Kd.R_drewN | apply Kd.R_drew)); exact HO288.out) (Kd.R_base ho53) hb)
              have n9_ := Aside0.mk (Kd.R_elder' (by (with_reducible repeat (first | apply Kd.R_alloc | apply Kd.R_drewN | apply Kd.R_drew)); exact HO292.out) (Kd.R_base ho53) hb)
              have n10_ := Aside0.mk (Kd.R_lower (Kd.R_new' (Kd.R_new' (Kd.R_new' (Kd.R_new' (Kd.R_new' ho53 (Kd.R_lt (by (with_reducible repeat (first | apply Kd.R_alloc | apply Kd.R_drewN | apply Kd.R_drew)); exact HO254.out))) (Kd.R_lt (by (with_reducible repeat (first | apply Kd.R_alloc | apply Kd.R_drewN | apply Kd.R_drew)); exact HO257.out))) (Kd.R_lt (by (with_reducible repeat (first | apply Kd.R_alloc | apply Kd.R_drewN | apply Kd.R_drew)); exact HO266.out))) (Kd.R_lt (by (with_reducible repeat (first | apply Kd.R_alloc | apply Kd.R_drewN | apply Kd.R_drew)); exact HO288.out))) (Kd.R_lt (by (with_reducible repeat (first | apply Kd.R_alloc | apply Kd.R_drewN | apply Kd.R_drew)); exact HO292.out))) (below_size (by repeat (first | (with_reducible first | exact HB.out | apply below_alloc | apply pw_below_drewN | apply below_drew1) | exact HB.out))))
              have n11_ := Aside0.mk (below_step (by repeat (first | (with_reducible first | exact HB.out | apply below_alloc | apply pw_below_drewN | apply below_drew1) | exact HB.out)) hb)
              clear HO254
              clear HO262
              clear HO257
              clear HO266
              clear HO271
              clear HO277
              clear HO282
              clear HO285
              clear HO288
              clear HO292
              clear HB
              have HO254 := n0_
              have HO262 := n1_
              have HO257 := n2_
              have HO266 := n3_
              have HO271 := n4_
              have HO277 := n5_
              have HO282 := n6_
              have HO285 := n7_
              have HO288 := n8_
              have HO292 := n9_
              have HO297 := n10_
              have HB := n11_
              clear n0_ n1_ n2_ n3_ n4_ n5_ n6_ n7_ n8_ n9_ n10_ n11_
              clear hb ho53
              refine hK.out _ _ ⟨HS0_, HS1_, HS2_, HS3_, HS4_, HS5_, HS6_, HS7_⟩ (fun hHeld => ?_)
              clear hK K
              refine norm_ (a' := ?_) ?_ ?_
              rotate_left
              ·show Act.put _ (some 38) _ = _
               simp only [Act.put, List.setIfInBounds_toArray, List.set_cons_zero, List.set_cons_succ, i64_w, i32_w]
               rfl
              exact norm_ (by simp only [putAll, Act.put, List.setIfInBounds_toArray, List.set_cons_zero, List.set_cons_succ]) (hCont (v291, v296) _ ⟨hHeld, (by (with_reducible repeat (first | apply Kd.R_alloc | apply Kd.R_drewN | apply Kd.R_drew)); exact Kd.R_mono HO254.out (fun _ hk => by first | exact ⟨hk.1.1.1.1.2, ⟨hk.1.1.1.2, ⟨hk.1.1.2, ⟨hk.1.2, hk.2⟩⟩⟩⟩ | (have h_ := hk; simp only [and_assoc] at h_ ⊢; (repeat' apply And.intro) <;> (first | exact h_.1 | exact h_ | exact h_.2.1 | exact h_.2 | exact h_.2.2.1 | exact h_.2.2 | exact h_.2.2.2.1 | exact h_.2.2.2 | exact h_.2.2.2.2.1 | exact h_.2.2.2.2 | exact h_.2.2.2.2.2.1 | exact h_.2.2.2.2.2 | exact h_.2.2.2.2.2.2.1 | exact h_.2.2.2.2.2.2 | exact h_.2.2.2.2.2.2.2.1 | exact h_.2.2.2.2.2.2.2 | exact h_.2.2.2.2.2.2.2.2.1 | exact h_.2.2.2.2.2.2.2.2 | exact h_.2.2.2.2.2.2.2.2.2.1 | exact h_.2.2.2.2.2.2.2.2.2 | exact h_.2.2.2.2.2.2.2.2.2.2.1 | exact h_.2.2.2.2.2.2.2.2.2.2 | exact h_.2.2.2.2.2.2.2.2.2.2.2.1 | exact h_.2.2.2.2.2.2.2.2.2.2.2)))), (by (with_reducible repeat (first | apply Kd.R_alloc | apply Kd.R_drewN | apply Kd.R_drew)); exact Kd.R_mono HO257.out (fun _ hk => by first | exact ⟨hk.1.1.1.1.2, ⟨hk.1.1.1.2, ⟨hk.1.1.2, ⟨hk.1.2, hk.2⟩⟩⟩⟩ | (have h_ := hk; simp only [and_assoc] at h_ ⊢; (repeat' apply And.intro) <;> (first | exact h_.1 | exact h_ | exact h_.2.1 | exact h_.2 | exact h_.2.2.1 | exact h_.2.2 | exact h_.2.2.2.1 | exact h_.2.2.2 | exact h_.2.2.2.2.1 | exact h_.2.2.2.2 | exact h_.2.2.2.2.2.1 | exact h_.2.2.2.2.2 | exact h_.2.2.2.2.2.2.1 | exact h_.2.2.2.2.2.2 | exact h_.2.2.2.2.2.2.2.1 | exact h_.2.2.2.2.2.2.2 | exact h_.2.2.2.2.2.2.2.2.1 | exact h_.2.2.2.2.2.2.2.2 | exact h_.2.2.2.2.2.2.2.2.2.1 | exact h_.2.2.2.2.2.2.2.2.2 | exact h_.2.2.2.2.2.2.2.2.2.2.1 | exact h_.2.2.2.2.2.2.2.2.2.2 | exact h_.2.2.2.2.2.2.2.2.2.2.2.1 | exact h_.2.2.2.2.2.2.2.2.2.2.2)))), (by (with_reducible repeat (first | apply Kd.V_alloc | apply Kd.V_drewN | apply Kd.V_drew)); exact Kd.V_mono HO262.out (fun _ hk => by first | exact ⟨hk.1.1.1.1.1.2, ⟨hk.1.1.1.1.2, ⟨hk.1.1.1.2, ⟨hk.1.1.2, ⟨hk.1.2, hk.2⟩⟩⟩⟩⟩ | (have h_ := hk; simp only [and_assoc] at h_ ⊢; (repeat' apply And.intro) <;> (first | exact h_.1 | exact h_ | exact h_.2.1 | exact h_.2 | exact h_.2.2.1 | exact h_.2.2 | exact h_.2.2.2.1 | exact h_.2.2.2 | exact h_.2.2.2.2.1 | exact h_.2.2.2.2 | exact h_.2.2.2.2.2.1 | exact h_.2.2.2.2.2 | exact h_.2.2.2.2.2.2.1 | exact h_.2.2.2.2.2.2 | exact h_.2.2.2.2.2.2.2.1 | exact h_.2.2.2.2.2.2.2 | exact h_.2.2.2.2.2.2.2.2.1 | exact h_.2.2.2.2.2.2.2.2 | exact h_.2.2.2.2.2.2.2.2.2.1 | exact h_.2.2.2.2.2.2.2.2.2 | exact h_.2.2.2.2.2.2.2.2.2.2.1 | exact h_.2.2.2.2.2.2.2.2.2.2 | exact h_.2.2.2.2.2.2.2.2.2.2.2.1 | exact h_.2.2.2.2.2.2.2.2.2.2.2)))), (by (with_reducible repeat (first | apply Kd.R_alloc | apply Kd.R_drewN | apply Kd.R_drew)); exact Kd.R_mono HO266.out (fun _ hk => by first | exact ⟨hk.1.1.1.1.2, ⟨hk.1.1.1.2, ⟨hk.1.1.2, ⟨hk.1.2, hk.2⟩⟩⟩⟩ | (have h_ := hk; simp only [and_assoc] at h_ ⊢; (repeat' apply And.intro) <;> (first | exact h_.1 | exact h_ | exact h_.2.1 | exact h_.2 | exact h_.2.2.1 | exact h_.2.2 | exact h_.2.2.2.1 | exact h_.2.2.2 | exact h_.2.2.2.2.1 | exact h_.2.2.2.2 | exact h_.2.2.2.2.2.1 | exact h_.2.2.2.2.2 | exact h_.2.2.2.2.2.2.1 | exact h_.2.2.2.2.2.2 | exact h_.2.2.2.2.2.2.2.1 | exact h_.2.2.2.2.2.2.2 | exact h_.2.2.2.2.2.2.2.2.1 | exact h_.2.2.2.2.2.2.2.2 | exact h_.2.2.2.2.2.2.2.2.2.1 | exact h_.2.2.2.2.2.2.2.2.2 | exact h_.2.2.2.2.2.2.2.2.2.2.1 | exact h_.2.2.2.2.2.2.2.2.2.2 | exact h_.2.2.2.2.2.2.2.2.2.2.2.1 | exact h_.2.2.2.2.2.2.2.2.2.2.2)))), (by (with_reducible repeat (first | apply Kd.V_alloc | apply Kd.V_drewN | apply Kd.V_drew)); exact Kd.V_mono HO271.out (fun _ hk => by first | exact ⟨hk.1.1.1.1.1.2, ⟨hk.1.1.1.1.2, ⟨hk.1.1.1.2, ⟨hk.1.1.2, ⟨hk.1.2, hk.2⟩⟩⟩⟩⟩ | (have h_ := hk; simp only [and_assoc] at h_ ⊢; (repeat' apply And.intro) <;> (first | exact h_.1 | exact h_ | exact h_.2.1 | exact h_.2 | exact h_.2.2.1 | exact h_.2.2 | exact h_.2.2.2.1 | exact h_.2.2.2 | exact h_.2.2.2.2.1 | exact h_.2.2.2.2 | exact h_.2.2.2.2.2.1 | exact h_.2.2.2.2.2 | exact h_.2.2.2.2.2.2.1 | exact h_.2.2.2.2.2.2 | exact h_.2.2.2.2.2.2.2.1 | exact h_.2.2.2.2.2.2.2 | exact h_.2.2.2.2.2.2.2.2.1 | exact h_.2.2.2.2.2.2.2.2 | exact h_.2.2.2.2.2.2.2.2.2.1 | exact h_.2.2.2.2.2.2.2.2.2 | exact h_.2.2.2.2.2.2.2.2.2.2.1 | exact h_.2.2.2.2.2.2.2.2.2.2 | exact h_.2.2.2.2.2.2.2.2.2.2.2.1 | exact h_.2.2.2.2.2.2.2.2.2.2.2)))), (by (with_reducible repeat (first | apply Kd.V_alloc | apply Kd.V_drewN | apply Kd.V_drew)); exact Kd.V_mono HO277.out (fun _ hk => by first | exact ⟨hk.1.1.1.1.1.2, ⟨hk.1.1.1.1.2, ⟨hk.1.1.1.2, ⟨hk.1.1.2, ⟨hk.1.2, hk.2⟩⟩⟩⟩⟩ | (have h_ := hk; simp only [and_assoc] at h_ ⊢; (repeat' apply And.intro) <;> (first | exact h_.1 | exact h_ | exact h_.2.1 | exact h_.2 | exact h_.2.2.1 | exact h_.2.2 | exact h_.2.2.2.1 | exact h_.2.2.2 | exact h_.2.2.2.2.1 | exact h_.2.2.2.2 | exact h_.2.2.2.2.2.1 | exact h_.2.2.2.2.2 | exact h_.2.2.2.2.2.2.1 | exact h_.2.2.2.2.2.2 | exact h_.2.2.2.2.2.2.2.1 | exact h_.2.2.2.2.2.2.2 | exact h_.2.2.2.2.2.2.2.2.1 | exact h_.2.2.2.2.2.2.2.2 | exact h_.2.2.2.2.2.2.2.2.2.1 | exact h_.2.2.2.2.2.2.2.2.2 | exact h_.2.2.2.2.2.2.2.2.2.2.1 | exact h_.2.2.2.2.2.2.2.2.2.2 | exact h_.2.2.2.2.2.2.2.2.2.2.2.1 | exact h_.2.2.2.2.2.2.2.2.2.2.2)))), (by (with_reducible repeat (first | apply Kd.V_alloc | apply Kd.V_drewN | apply Kd.V_drew)); exact Kd.V_mono HO282.out (fun _ hk => by first | exact ⟨hk.1.1.1.1.1.2, ⟨hk.1.1.1.1.2, ⟨hk.1.1.1.2, ⟨hk.1.1.2, ⟨hk.1.2, hk.2⟩⟩⟩⟩⟩ | (have h_ := hk; simp only [and_assoc] at h_ ⊢; (repeat' apply And.intro) <;> (first | exact h_.1 | exact h_ | exact h_.2.1 | exact h_.2 | exact h_.2.2.1 | exact h_.2.2 | exact h_.2.2.2.1 | exact h_.2.2.2 | exact h_.2.2.2.2.1 | exact h_.2.2.2.2 | exact h_.2.2.2.2.2.1 | exact h_.2.2.2.2.2 | exact h_.2.2.2.2.2.2.1 | exact h_.2.2.2.2.2.2 | exact h_.2.2.2.2.2.2.2.1 | exact h_.2.2.2.2.2.2.2 | exact h_.2.2.2.2.2.2.2.2.1 | exact h_.2.2.2.2.2.2.2.2 | exact h_.2.2.2.2.2.2.2.2.2.1 | exact h_.2.2.2.2.2.2.2.2.2 | exact h_.2.2.2.2.2.2.2.2.2.2.1 | exact h_.2.2.2.2.2.2.2.2.2.2 | exact h_.2.2.2.2.2.2.2.2.2.2.2.1 | exact h_.2.2.2.2.2.2.2.2.2.2.2)))), (by (with_reducible repeat (first | apply Kd.N_alloc | apply Kd.N_drewN | apply Kd.N_drew)); exact Kd.N_mono HO285.out (fun _ hk => by first | exact ⟨hk.1.1.1.1, ⟨hk.1.1.1.2, ⟨hk.1.1.2, ⟨hk.1.2, hk.2⟩⟩⟩⟩ | (have h_ := hk; simp only [and_assoc] at h_ ⊢; (repeat' apply And.intro) <;> (first | exact h_.1 | exact h_ | exact h_.2.1 | exact h_.2 | exact h_.2.2.1 | exact h_.2.2 | exact h_.2.2.2.1 | exact h_.2.2.2 | exact h_.2.2.2.2.1 | exact h_.2.2.2.2 | exact h_.2.2.2.2.2.1 | exact h_.2.2.2.2.2 | exact h_.2.2.2.2.2.2.1 | exact h_.2.2.2.2.2.2 | exact h_.2.2.2.2.2.2.2.1 | exact h_.2.2.2.2.2.2.2 | exact h_.2.2.2.2.2.2.2.2.1 | exact h_.2.2.2.2.2.2.2.2 | exact h_.2.2.2.2.2.2.2.2.2.1 | exact h_.2.2.2.2.2.2.2.2.2 | exact h_.2.2.2.2.2.2.2.2.2.2.1 | exact h_.2.2.2.2.2.2.2.2.2.2 | exact h_.2.2.2.2.2.2.2.2.2.2.2.1 | exact h_.2.2.2.2.2.2.2.2.2.2.2)))), (by (with_reducible repeat (first | apply Kd.R_alloc | apply Kd.R_drewN | apply Kd.R_drew)); exact Kd.R_mono HO288.out (fun _ hk => by first | exact ⟨hk.1.1.1.1.2, ⟨hk.1.1.1.2, ⟨hk.1.1.2, ⟨hk.1.2, hk.2⟩⟩⟩⟩ | (have h_ := hk; simp only [and_assoc] at h_ ⊢; (repeat' apply And.intro) <;> (first | exact h_.1 | exact h_ | exact h_.2.1 | exact h_.2 | exact h_.2.2.1 | exact h_.2.2 | exact h_.2.2.2.1 | exact h_.2.2.2 | exact h_.2.2.2.2.1 | exact h_.2.2.2.2 | exact h_.2.2.2.2.2.1 | exact h_.2.2.2.2.2 | exact h_.2.2.2.2.2.2.1 | exact h_.2.2.2.2.2.2 | exact h_.2.2.2.2.2.2.2.1 | exact h_.2.2.2.2.2.2.2 | exact h_.2.2.2.2.2.2.2.2.1 | exact h_.2.2.2.2.2.2.2.2 | exact h_.2.2.2.2.2.2.2.2.2.1 | exact h_.2.2.2.2.2.2.2.2.2 | exact h_.2.2.2.2.2.2.2.2.2.2.1 | exact h_.2.2.2.2.2.2.2.2.2.2 | exact h_.2.2.2.2.2.2.2.2.2.2.2.1 | exact h_.2.2.2.2.2.2.2.2.2.2.2)))), (by (with_reducible repeat (first | apply Kd.R_alloc | apply Kd.R_drewN | apply Kd.R_drew)); exact Kd.R_mono HO292.out (fun _ hk => by first | exact ⟨hk.1.1.1.1.2, ⟨hk.1.1.1.2, ⟨hk.1.1.2, ⟨hk.1.2, hk.2⟩⟩⟩⟩ | (have h_ := hk; simp only [and_assoc] at h_ ⊢; (repeat' apply And.intro) <;> (first | exact h_.1 | exact h_ | exact h_.2.1 | exact h_.2 | exact h_.2.2.1 | exact h_.2.2 | exact h_.2.2.2.1 | exact h_.2.2.2 | exact h_.2.2.2.2.1 | exact h_.2.2.2.2 | exact h_.2.2.2.2.2.1 | exact h_.2.2.2.2.2 | exact h_.2.2.2.2.2.2.1 | exact h_.2.2.2.2.2.2 | exact h_.2.2.2.2.2.2.2.1 | exact h_.2.2.2.2.2.2.2 | exact h_.2.2.2.2.2.2.2.2.1 | exact h_.2.2.2.2.2.2.2.2 | exact h_.2.2.2.2.2.2.2.2.2.1 | exact h_.2.2.2.2.2.2.2.2.2 | exact h_.2.2.2.2.2.2.2.2.2.2.1 | exact h_.2.2.2.2.2.2.2.2.2.2 | exact h_.2.2.2.2.2.2.2.2.2.2.2.1 | exact h_.2.2.2.2.2.2.2.2.2.2.2)))), (by (with_reducible repeat (first | apply Kd.R_alloc | apply Kd.R_drewN | apply Kd.R_drew)); exact Kd.R_mono HO297.out (fun _ hk => by first | exact ⟨hk.1.1.1.1.2, ⟨hk.1.1.1.2, ⟨hk.1.1.2, ⟨hk.1.2, hk.2⟩⟩⟩⟩ | (have h_ := hk; simp only [and_assoc] at h_ ⊢; (repeat' apply And.intro) <;> (first | exact h_.1 | exact h_ | exact h_.2.1 | exact h_.2 | exact h_.2.2.1 | exact h_.2.2 | exact h_.2.2.2.1 | exact h_.2.2.2 | exact h_.2.2.2.2.1 | exact h_.2.2.2.2 | exact h_.2.2.2.2.2.1 | exact h_.2.2.2.2.2 | exact h_.2.2.2.2.2.2.1 | exact h_.2.2.2.2.2.2 | exact h_.2.2.2.2.2.2.2.1 | exact h_.2.2.2.2.2.2.2 | exact h_.2.2.2.2.2.2.2.2.1 | exact h_.2.2.2.2.2.2.2.2 | exact h_.2.2.2.2.2.2.2.2.2.1 | exact h_.2.2.2.2.2.2.2.2.2 | exact h_.2.2.2.2.2.2.2.2.2.2.1 | exact h_.2.2.2.2.2.2.2.2.2.2 | exact h_.2.2.2.2.2.2.2.2.2.2.2.1 | exact h_.2.2.2.2.2.2.2.2.2.2.2)))), (by repeat (first | (with_reducible first | exact HB.out | apply below_alloc | apply pw_below_drewN | apply below_drew1) | exact HB.out))⟩)
             ·skip
              refine Kd.R_lit_step k36 _ 36 ?hg (N := 38) ?hd (xs := ([(⟨(rd_T36 y252 0).f0, (rd_T36 y252 0).f1, (rd_T36 y252 0).f2, (rd_T36 y252 0).f3⟩ : S36), (⟨(rd_T36 y252 2).f0, (rd_T36 y252 2).f1, (rd_T36 y252 2).f2, (rd_T36 y252 2).f3⟩ : S36)] : List (S36))) (inner := [.string ((rd_T36 y252 0).f0), .int .i64 ((rd_T36 y252 0).f1), .bool ((rd_T36 y252 0).f2), .string ((rd_T36 y252 0).f3), .string ((rd_T36 y252 2).f0), .int .i64 ((rd_T36 y252 2).f1), .bool ((rd_T36 y252 2).f2), .string ((rd_T36 y252 2).f3)]) (ok := fun _ => True) (okp := fun _ => True) ?hr ?hp (fun _ hk => hk) trivial (Below.refl _ _) (Nat.le_refl _) (by simp) ?_; (case hd => rfl); (case hg => rfl); (case hr => first | (go_simp; done) | (go_simp; rfl)); (case hp => exact (Reps.c4 (show Kd.M k36 _ _ _ (⟨(rd_T36 y252 0).f0, (rd_T36 y252 0).f1, (rd_T36 y252 0).f2, (rd_T36 y252 0).f3⟩ : S36) [.string ((rd_T36 y252 0).f0), .int .i64 ((rd_T36 y252 0).f1), .bool ((rd_T36 y252 0).f2), .string ((rd_T36 y252 0).f3)] from (k36_mkM _ _ _ (⟨(rd_T36 y252 0).f0, (rd_T36 y252 0).f1, (rd_T36 y252 0).f2, (rd_T36 y252 0).f3⟩ : S36) )) (Reps.c4 (show Kd.M k36 _ _ _ (⟨(rd_T36 y252 2).f0, (rd_T36 y252 2).f1, (rd_T36 y252 2).f2, (rd_T36 y252 2).f3⟩ : S36) [.string ((rd_T36 y252 2).f0), .int .i64 ((rd_T36 y252 2).f1), .bool ((rd_T36 y252 2).f2), .string ((rd_T36 y252 2).f3)] from (k36_mkM _ _ _ (⟨(rd_T36 y252 2).f0, (rd_T36 y252 2).f1, (rd_T36 y252 2).f2, (rd_T36 y252 2).f3⟩ : S36) )) (Reps.none _ _))))
              intro v296 w51 ho52 hb hg_ hnew_
              have HS0_ := (hb.cell (World.block_lt_of_cell? _ _ (hHeld.1))).trans (hHeld.1)
              have HS1_ := (hb.cell (World.block_lt_of_cell? _ _ (hHeld.2.1))).trans (hHeld.2.1)
              have HS2_ := (hb.cell (World.block_lt_of_cell? _ _ (hHeld.2.2.1))).trans (hHeld.2.2.1)
              have HS3_ := (hb.cell (World.block_lt_of_cell? _ _ (hHeld.2.2.2.1))).trans (hHeld.2.2.2.1)
              have HS4_ := (hb.cell (World.block_lt_of_cell? _ _ (hHeld.2.2.2.2.1))).trans (hHeld.2.2.2.2.1)
              have HS5_ := (hb.cell (World.block_lt_of_cell? _ _ (hHeld.2.2.2.2.2.1))).trans (hHeld.2.2.2.2.2.1)
              have HS6_ := (hb.cell (World.block_lt_of_cell? _ _ (hHeld.2.2.2.2.2.2.1))).trans (hHeld.2.2.2.2.2.2.1)
              have HS7_ := (hb.cell (World.block_lt_of_cell? _ _ (hHeld.2.2.2.2.2.2.2))).trans (hHeld.2.2.2.2.2.2.2)
              clear hg_ hnew_
              (first | rw [← Ny295.out] at ho52 | (simp only [Int.reduceToNat] at ho52; rw [← Ny295.out] at ho52))
              have n0_ := Aside0.mk (Kd.R_elder' (by (with_reducible repeat (first | apply Kd.R_alloc | apply Kd.R_drewN | apply Kd.R_drew)); exact HO254.out) (Kd.R_base ho52) hb)
              have n1_ := Aside0.mk (Kd.V_elder' (by (with_reducible repeat (first | apply Kd.V_alloc | apply Kd.V_drewN | apply Kd.V_drew)); exact HO262.out) (Kd.R_base ho52) hb)
              have n2_ := Aside0.mk (Kd.R_elder' (by (with_reducible repeat (first | apply Kd.R_alloc | apply Kd.R_drewN | apply Kd.R_drew)); exact HO257.out) (Kd.R_base ho52) hb)
              have n3_ := Aside0.mk (Kd.R_elder' (by (with_reducible repeat (first | apply Kd.R_alloc | apply Kd.R_drewN | apply Kd.R_drew)); exact HO266.out) (Kd.R_base ho52) hb)
              have n4_ := Aside0.mk (Kd.V_elder' (by (with_reducible repeat (first | apply Kd.V_alloc | apply Kd.V_drewN | apply Kd.V_drew)); exact HO271.out) (Kd.R_base ho52) hb)
              have n5_ := Aside0.mk (Kd.V_elder' (by (with_reducible repeat (first | apply Kd.V_alloc | apply Kd.V_drewN | apply Kd.V_drew)); exact HO277.out) (Kd.R_base ho52) hb)
              have n6_ := Aside0.mk (Kd.V_elder' (by (with_reducible repeat (first | apply Kd.V_alloc | apply Kd.V_drewN | apply Kd.V_drew)); exact HO282.out) (Kd.R_base ho52) hb)
              have n7_ := Aside0.mk (Kd.N_elder' (by (with_reducible repeat (first | apply Kd.N_alloc | apply Kd.N_drewN | apply Kd.N_drew)); exact HO285.out) (Kd.R_base ho52) hb)
              have n8_ := Aside0.mk (Kd.R_elder' (by (with_reducible repeat (first | apply Kd.R_alloc | apply Kd.R_drewN | apply Kd.R_drew)); exact HO288.out) (Kd.R_base ho52) hb)
              have n9_ := Aside0.mk (Kd.R_lower (Kd.R_new' (Kd.R_new' (Kd.R_new' (Kd.R_new' ho52 (Kd.R_lt (by (with_reducible repeat (first | apply Kd.R_alloc | apply Kd.R_drewN | apply Kd.R_drew)); exact HO254.out))) (Kd.R_lt (by (with_reducible repeat (first | apply Kd.R_alloc | apply Kd.R_drewN | apply Kd.R_drew)); exact HO257.out))) (Kd.R_lt (by (with_reducible repeat (first | apply Kd.R_alloc | apply Kd.R_drewN | apply Kd.R_drew)); exact HO266.out))) (Kd.R_lt (by (with_reducible repeat (first | apply Kd.R_alloc | apply Kd.R_drewN | apply Kd.R_drew)); exact HO288.out))) (below_size (by repeat (first | (with_reducible first | exact HB.out | apply below_alloc | apply pw_below_drewN | apply below_drew1) | exact HB.out))))
              have n10_ := Aside0.mk (below_step (by repeat (first | (with_reducible first | exact HB.out | apply below_alloc | apply pw_below_drewN | apply below_drew1) | exact HB.out)) hb)
              clear HO254
              clear HO262
              clear HO257
              clear HO266
              clear HO271
              clear HO277
              clear HO282
              clear HO285
              clear HO288
              clear HB
              have HO254 := n0_
              have HO262 := n1_
              have HO257 := n2_
              have HO266 := n3_
              have HO271 := n4_
              have HO277 := n5_
              have HO282 := n6_
              have HO285 := n7_
              have HO288 := n8_
              have HO297 := n9_
              have HB := n10_
              clear n0_ n1_ n2_ n3_ n4_ n5_ n6_ n7_ n8_ n9_ n10_
              clear hb ho52
              refine hK.out _ _ ⟨HS0_, HS1_, HS2_, HS3_, HS4_, HS5_, HS6_, HS7_⟩ (fun hHeld => ?_)
              clear hK K
              refine norm_ (a' := ?_) ?_ ?_
              rotate_left
              ·show Act.put _ (some 38) _ = _
               simp only [Act.put, List.setIfInBounds_toArray, List.set_cons_zero, List.set_cons_succ, i64_w, i32_w]
               rfl
              refine one_ (i := 1) (N := some 31) #[tt, tt, tt, tt, tt, tt, tt, tt, tt, ff, ff, ff, ff, ff, ff, ff, ff, ff, ff, ff, ff, ff, ff, ff, ff] rfl rfl (one_of HT_.out (by kernel_rfl)) (by decide) (fun K hK => ?_)
              refine goes_ Try.func16 (by kernel_rfl) rfl #[.slice (some ad293) y252.length co37, .slice none 0 0, .bool false] (by rfl) rfl rfl (by (try simp only [List.map_toArray, List.map_cons, List.map_nil]); first | done | rfl | (simp only [List.length_drop, List.length_take]; rfl)) ?_
              refine (merge_Thin.calls k _ _ y252 _ _ ([] : List Int) false t290 _ ?side1 ?side2 ?side3 ?side4 A15.out).mono ?_
              (case side1 => repeat (first | exact (Kd.R_reads' HO254.out).2.2 | (with_reducible refine Kd.C_alloc ?_ _) | (with_reducible refine Kd.C_drewN ?_ _) | (with_reducible refine Kd.C_drew ?_)))
              (case side2 => exact (Kd.R_reads' HO254.out).2.1)
              (case side3 => exact Kd.C_nil _ _)
              (case side4 => exact Nat.le_refl _)
              rintro e w53 ⟨v291, rfl, ho0, hb⟩
              have HS0_ := (hb.cell (World.block_lt_of_cell? _ _ (hHeld.1))).trans (hHeld.1)
              have HS1_ := (hb.cell (World.block_lt_of_cell? _ _ (hHeld.2.1))).trans (hHeld.2.1)
              have HS2_ := (hb.cell (World.block_lt_of_cell? _ _ (hHeld.2.2.1))).trans (hHeld.2.2.1)
              have HS3_ := (hb.cell (World.block_lt_of_cell? _ _ (hHeld.2.2.2.1))).trans (hHeld.2.2.2.1)
              have HS4_ := (hb.cell (World.block_lt_of_cell? _ _ (hHeld.2.2.2.2.1))).trans (hHeld.2.2.2.2.1)
              have HS5_ := (hb.cell (World.block_lt_of_cell? _ _ (hHeld.2.2.2.2.2.1))).trans (hHeld.2.2.2.2.2.1)
              have HS6_ := (hb.cell (World.block_lt_of_cell? _ _ (hHeld.2.2.2.2.2.2.1))).trans (hHeld.2.2.2.2.2.2.1)
              have HS7_ := (hb.cell (World.block_lt_of_cell? _ _ (hHeld.2.2.2.2.2.2.2))).trans (hHeld.2.2.2.2.2.2.2)
              refine ⟨_, rfl, ?_⟩
              have n0_ := Aside0.mk (Kd.R_elder' (by (with_reducible repeat (first | apply Kd.R_alloc | apply Kd.R_drewN | apply Kd.R_drew)); exact HO254.out) (Kd.R_base ho0) hb)
              have n1_ := Aside0.mk (Kd.V_elder' (by (with_reducible repeat (first | apply Kd.V_alloc | apply Kd.V_drewN | apply Kd.V_drew)); exact HO262.out) (Kd.R_base ho0) hb)
              have n2_ := Aside0.mk (Kd.R_elder' (by (with_reducible repeat (first | apply Kd.R_alloc | apply Kd.R_drewN | apply Kd.R_drew)); exact HO257.out) (Kd.R_base ho0) hb)
              have n3_ := Aside0.mk (Kd.R_elder' (by (with_reducible repeat (first | apply Kd.R_alloc | apply Kd.R_drewN | apply Kd.R_drew)); exact HO266.out) (Kd.R_base ho0) hb)
              have n4_ := Aside0.mk (Kd.V_elder' (by (with_reducible repeat (first | apply Kd.V_alloc | apply Kd.V_drewN | apply Kd.V_drew)); exact HO271.out) (Kd.R_base ho0) hb)
              have n5_ := Aside0.mk (Kd.V_elder' (by (with_reducible repeat (first | apply Kd.V_alloc | apply Kd.V_drewN | apply Kd.V_drew)); exact HO277.out) (Kd.R_base ho0) hb)
              have n6_ := Aside0.mk (Kd.V_elder' (by (with_reducible repeat (first | apply Kd.V_alloc | apply Kd.V_drewN | apply Kd.V_drew)); exact HO282.out) (Kd.R_base ho0) hb)
              have n7_ := Aside0.mk (Kd.N_elder' (by (with_reducible repeat (first | apply Kd.N_alloc | apply Kd.N_drewN | apply Kd.N_drew)); exact HO285.out) (Kd.R_base ho0) hb)
              have n8_ := Aside0.mk (Kd.R_elder' (by (with_reducible repeat (first | apply Kd.R_alloc | apply Kd.R_drewN | apply Kd.R_drew)); exact HO288.out) (Kd.R_base ho0) hb)
              have n9_ := Aside0.mk (Kd.R_elder' (by (with_reducible repeat (first | apply Kd.R_alloc | apply Kd.R_drewN | apply Kd.R_drew)); exact HO297.out) (Kd.R_base ho0) hb)
              have n10_ := Aside0.mk (Kd.R_lower (Kd.R_new' (Kd.R_new' (Kd.R_new' (Kd.R_new' (Kd.R_new' ho0 (Kd.R_lt (by (with_reducible repeat (first | apply Kd.R_alloc | apply Kd.R_drewN | apply Kd.R_drew)); exact HO254.out))) (Kd.R_lt (by (with_reducible repeat (first | apply Kd.R_alloc | apply Kd.R_drewN | apply Kd.R_drew)); exact HO257.out))) (Kd.R_lt (by (with_reducible repeat (first | apply Kd.R_alloc | apply Kd.R_drewN | apply Kd.R_drew)); exact HO266.out))) (Kd.R_lt (by (with_reducible repeat (first | apply Kd.R_alloc | apply Kd.R_drewN | apply Kd.R_drew)); exact HO288.out))) (Kd.R_lt (by (with_reducible repeat (first | apply Kd.R_alloc | apply Kd.R_drewN | apply Kd.R_drew)); exact HO297.out))) (below_size (by repeat (first | (with_reducible first | exact HB.out | apply below_alloc | apply pw_below_drewN | apply below_drew1) | exact HB.out))))
              have n11_ := Aside0.mk (below_step (by repeat (first | (with_reducible first | exact HB.out | apply below_alloc | apply pw_below_drewN | apply below_drew1) | exact HB.out)) hb)
              clear HO254
              clear HO262
              clear HO257
              clear HO266
              clear HO271
              clear HO277
              clear HO282
              clear HO285
              clear HO288
              clear HO297
              clear HB
              have HO254 := n0_
              have HO262 := n1_
              have HO257 := n2_
              have HO266 := n3_
              have HO271 := n4_
              have HO277 := n5_
              have HO282 := n6_
              have HO285 := n7_
              have HO288 := n8_
              have HO297 := n9_
              have HO292 := n10_
              have HB := n11_
              clear n0_ n1_ n2_ n3_ n4_ n5_ n6_ n7_ n8_ n9_ n10_ n11_
              (try clear hb)
              (try clear hb2)
              (try clear hk)
              (try clear hi)
              (try clear ho0)
              refine hK.out _ _ ⟨HS0_, HS1_, HS2_, HS3_, HS4_, HS5_, HS6_, HS7_⟩ (fun hHeld => ?_)
              clear hK K
              refine norm_ (a' := ?_) ?_ ?_
              rotate_left
              ·show Act.put _ (some 31) _ = _
               simp only [Act.put, List.setIfInBounds_toArray, List.set_cons_zero, List.set_cons_succ, i64_w, i32_w]
               rfl
              exact norm_ (by simp only [putAll, Act.put, List.setIfInBounds_toArray, List.set_cons_zero, List.set_cons_succ]) (hCont (v291, v296) _ ⟨hHeld, (by (with_reducible repeat (first | apply Kd.R_alloc | apply Kd.R_drewN | apply Kd.R_drew)); exact Kd.R_mono HO254.out (fun _ hk => by first | exact ⟨hk.1.1.1.1.2, ⟨hk.1.1.1.2, ⟨hk.1.1.2, ⟨hk.2, hk.1.2⟩⟩⟩⟩ | (have h_ := hk; simp only [and_assoc] at h_ ⊢; (repeat' apply And.intro) <;> (first | exact h_.1 | exact h_ | exact h_.2.1 | exact h_.2 | exact h_.2.2.1 | exact h_.2.2 | exact h_.2.2.2.1 | exact h_.2.2.2 | exact h_.2.2.2.2.1 | exact h_.2.2.2.2 | exact h_.2.2.2.2.2.1 | exact h_.2.2.2.2.2 | exact h_.2.2.2.2.2.2.1 | exact h_.2.2.2.2.2.2 | exact h_.2.2.2.2.2.2.2.1 | exact h_.2.2.2.2.2.2.2 | exact h_.2.2.2.2.2.2.2.2.1 | exact h_.2.2.2.2.2.2.2.2 | exact h_.2.2.2.2.2.2.2.2.2.1 | exact h_.2.2.2.2.2.2.2.2.2 | exact h_.2.2.2.2.2.2.2.2.2.2.1 | exact h_.2.2.2.2.2.2.2.2.2.2 | exact h_.2.2.2.2.2.2.2.2.2.2.2.1 | exact h_.2.2.2.2.2.2.2.2.2.2.2)))), (by (with_reducible repeat (first | apply Kd.R_alloc | apply Kd.R_drewN | apply Kd.R_drew)); exact Kd.R_mono HO257.out (fun _ hk => by first | exact ⟨hk.1.1.1.1.2, ⟨hk.1.1.1.2, ⟨hk.1.1.2, ⟨hk.2, hk.1.2⟩⟩⟩⟩ | (have h_ := hk; simp only [and_assoc] at h_ ⊢; (repeat' apply And.intro) <;> (first | exact h_.1 | exact h_ | exact h_.2.1 | exact h_.2 | exact h_.2.2.1 | exact h_.2.2 | exact h_.2.2.2.1 | exact h_.2.2.2 | exact h_.2.2.2.2.1 | exact h_.2.2.2.2 | exact h_.2.2.2.2.2.1 | exact h_.2.2.2.2.2 | exact h_.2.2.2.2.2.2.1 | exact h_.2.2.2.2.2.2 | exact h_.2.2.2.2.2.2.2.1 | exact h_.2.2.2.2.2.2.2 | exact h_.2.2.2.2.2.2.2.2.1 | exact h_.2.2.2.2.2.2.2.2 | exact h_.2.2.2.2.2.2.2.2.2.1 | exact h_.2.2.2.2.2.2.2.2.2 | exact h_.2.2.2.2.2.2.2.2.2.2.1 | exact h_.2.2.2.2.2.2.2.2.2.2 | exact h_.2.2.2.2.2.2.2.2.2.2.2.1 | exact h_.2.2.2.2.2.2.2.2.2.2.2)))), (by (with_reducible repeat (first | apply Kd.V_alloc | apply Kd.V_drewN | apply Kd.V_drew)); exact Kd.V_mono HO262.out (fun _ hk => by first | exact ⟨hk.1.1.1.1.1.2, ⟨hk.1.1.1.1.2, ⟨hk.1.1.1.2, ⟨hk.1.1.2, ⟨hk.2, hk.1.2⟩⟩⟩⟩⟩ | (have h_ := hk; simp only [and_assoc] at h_ ⊢; (repeat' apply And.intro) <;> (first | exact h_.1 | exact h_ | exact h_.2.1 | exact h_.2 | exact h_.2.2.1 | exact h_.2.2 | exact h_.2.2.2.1 | exact h_.2.2.2 | exact h_.2.2.2.2.1 | exact h_.2.2.2.2 | exact h_.2.2.2.2.2.1 | exact h_.2.2.2.2.2 | exact h_.2.2.2.2.2.2.1 | exact h_.2.2.2.2.2.2 | exact h_.2.2.2.2.2.2.2.1 | exact h_.2.2.2.2.2.2.2 | exact h_.2.2.2.2.2.2.2.2.1 | exact h_.2.2.2.2.2.2.2.2 | exact h_.2.2.2.2.2.2.2.2.2.1 | exact h_.2.2.2.2.2.2.2.2.2 | exact h_.2.2.2.2.2.2.2.2.2.2.1 | exact h_.2.2.2.2.2.2.2.2.2.2 | exact h_.2.2.2.2.2.2.2.2.2.2.2.1 | exact h_.2.2.2.2.2.2.2.2.2.2.2)))), (by (with_reducible repeat (first | apply Kd.R_alloc | apply Kd.R_drewN | apply Kd.R_drew)); exact Kd.R_mono HO266.out (fun _ hk => by first | exact ⟨hk.1.1.1.1.2, ⟨hk.1.1.1.2, ⟨hk.1.1.2, ⟨hk.2, hk.1.2⟩⟩⟩⟩ | (have h_ := hk; simp only [and_assoc] at h_ ⊢; (repeat' apply And.intro) <;> (first | exact h_.1 | exact h_ | exact h_.2.1 | exact h_.2 | exact h_.2.2.1 | exact h_.2.2 | exact h_.2.2.2.1 | exact h_.2.2.2 | exact h_.2.2.2.2.1 | exact h_.2.2.2.2 | exact h_.2.2.2.2.2.1 | exact h_.2.2.2.2.2 | exact h_.2.2.2.2.2.2.1 | exact h_.2.2.2.2.2.2 | exact h_.2.2.2.2.2.2.2.1 | exact h_.2.2.2.2.2.2.2 | exact h_.2.2.2.2.2.2.2.2.1 | exact h_.2.2.2.2.2.2.2.2 | exact h_.2.2.2.2.2.2.2.2.2.1 | exact h_.2.2.2.2.2.2.2.2.2 | exact h_.2.2.2.2.2.2.2.2.2.2.1 | exact h_.2.2.2.2.2.2.2.2.2.2 | exact h_.2.2.2.2.2.2.2.2.2.2.2.1 | exact h_.2.2.2.2.2.2.2.2.2.2.2)))), (by (with_reducible repeat (first | apply Kd.V_alloc | apply Kd.V_drewN | apply Kd.V_drew)); exact Kd.V_mono HO271.out (fun _ hk => by first | exact ⟨hk.1.1.1.1.1.2, ⟨hk.1.1.1.1.2, ⟨hk.1.1.1.2, ⟨hk.1.1.2, ⟨hk.2, hk.1.2⟩⟩⟩⟩⟩ | (have h_ := hk; simp only [and_assoc] at h_ ⊢; (repeat' apply And.intro) <;> (first | exact h_.1 | exact h_ | exact h_.2.1 | exact h_.2 | exact h_.2.2.1 | exact h_.2.2 | exact h_.2.2.2.1 | exact h_.2.2.2 | exact h_.2.2.2.2.1 | exact h_.2.2.2.2 | exact h_.2.2.2.2.2.1 | exact h_.2.2.2.2.2 | exact h_.2.2.2.2.2.2.1 | exact h_.2.2.2.2.2.2 | exact h_.2.2.2.2.2.2.2.1 | exact h_.2.2.2.2.2.2.2 | exact h_.2.2.2.2.2.2.2.2.1 | exact h_.2.2.2.2.2.2.2.2 | exact h_.2.2.2.2.2.2.2.2.2.1 | exact h_.2.2.2.2.2.2.2.2.2 | exact h_.2.2.2.2.2.2.2.2.2.2.1 | exact h_.2.2.2.2.2.2.2.2.2.2 | exact h_.2.2.2.2.2.2.2.2.2.2.2.1 | exact h_.2.2.2.2.2.2.2.2.2.2.2)))), (by (with_reducible repeat (first | apply Kd.V_alloc | apply Kd.V_drewN | apply Kd.V_drew)); exact Kd.V_mono HO277.out (fun _ hk => by first | exact ⟨hk.1.1.1.1.1.2, ⟨hk.1.1.1.1.2, ⟨hk.1.1.1.2, ⟨hk.1.1.2, ⟨hk.2, hk.1.2⟩⟩⟩⟩⟩ | (have h_ := hk; simp only [and_assoc] at h_ ⊢; (repeat' apply And.intro) <;> (first | exact h_.1 | exact h_ | exact h_.2.1 | exact h_.2 | exact h_.2.2.1 | exact h_.2.2 | exact h_.2.2.2.1 | exact h_.2.2.2 | exact h_.2.2.2.2.1 | exact h_.2.2.2.2 | exact h_.2.2.2.2.2.1 | exact h_.2.2.2.2.2 | exact h_.2.2.2.2.2.2.1 | exact h_.2.2.2.2.2.2 | exact h_.2.2.2.2.2.2.2.1 | exact h_.2.2.2.2.2.2.2 | exact h_.2.2.2.2.2.2.2.2.1 | exact h_.2.2.2.2.2.2.2.2 | exact h_.2.2.2.2.2.2.2.2.2.1 | exact h_.2.2.2.2.2.2.2.2.2 | exact h_.2.2.2.2.2.2.2.2.2.2.1 | exact h_.2.2.2.2.2.2.2.2.2.2 | exact h_.2.2.2.2.2.2.2.2.2.2.2.1 | exact h_.2.2.2.2.2.2.2.2.2.2.2)))), (by (with_reducible repeat (first | apply Kd.V_alloc | apply Kd.V_drewN | apply Kd.V_drew)); exact Kd.V_mono HO282.out (fun _ hk => by first | exact ⟨hk.1.1.1.1.1.2, ⟨hk.1.1.1.1.2, ⟨hk.1.1.1.2, ⟨hk.1.1.2, ⟨hk.2, hk.1.2⟩⟩⟩⟩⟩ | (have h_ := hk; simp only [and_assoc] at h_ ⊢; (repeat' apply And.intro) <;> (first | exact h_.1 | exact h_ | exact h_.2.1 | exact h_.2 | exact h_.2.2.1 | exact h_.2.2 | exact h_.2.2.2.1 | exact h_.2.2.2 | exact h_.2.2.2.2.1 | exact h_.2.2.2.2 | exact h_.2.2.2.2.2.1 | exact h_.2.2.2.2.2 | exact h_.2.2.2.2.2.2.1 | exact h_.2.2.2.2.2.2 | exact h_.2.2.2.2.2.2.2.1 | exact h_.2.2.2.2.2.2.2 | exact h_.2.2.2.2.2.2.2.2.1 | exact h_.2.2.2.2.2.2.2.2 | exact h_.2.2.2.2.2.2.2.2.2.1 | exact h_.2.2.2.2.2.2.2.2.2 | exact h_.2.2.2.2.2.2.2.2.2.2.1 | exact h_.2.2.2.2.2.2.2.2.2.2 | exact h_.2.2.2.2.2.2.2.2.2.2.2.1 | exact h_.2.2.2.2.2.2.2.2.2.2.2)))), (by (with_reducible repeat (first | apply Kd.N_alloc | apply Kd.N_drewN | apply Kd.N_drew)); exact Kd.N_mono HO285.out (fun _ hk => by first | exact ⟨hk.1.1.1.1, ⟨hk.1.1.1.2, ⟨hk.1.1.2, ⟨hk.2, hk.1.2⟩⟩⟩⟩ | (have h_ := hk; simp only [and_assoc] at h_ ⊢; (repeat' apply And.intro) <;> (first | exact h_.1 | exact h_ | exact h_.2.1 | exact h_.2 | exact h_.2.2.1 | exact h_.2.2 | exact h_.2.2.2.1 | exact h_.2.2.2 | exact h_.2.2.2.2.1 | exact h_.2.2.2.2 | exact h_.2.2.2.2.2.1 | exact h_.2.2.2.2.2 | exact h_.2.2.2.2.2.2.1 | exact h_.2.2.2.2.2.2 | exact h_.2.2.2.2.2.2.2.1 | exact h_.2.2.2.2.2.2.2 | exact h_.2.2.2.2.2.2.2.2.1 | exact h_.2.2.2.2.2.2.2.2 | exact h_.2.2.2.2.2.2.2.2.2.1 | exact h_.2.2.2.2.2.2.2.2.2 | exact h_.2.2.2.2.2.2.2.2.2.2.1 | exact h_.2.2.2.2.2.2.2.2.2.2 | exact h_.2.2.2.2.2.2.2.2.2.2.2.1 | exact h_.2.2.2.2.2.2.2.2.2.2.2)))), (by (with_reducible repeat (first | apply Kd.R_alloc | apply Kd.R_drewN | apply Kd.R_drew)); exact Kd.R_mono HO288.out (fun _ hk => by first | exact ⟨hk.1.1.1.1.2, ⟨hk.1.1.1.2, ⟨hk.1.1.2, ⟨hk.2, hk.1.2⟩⟩⟩⟩ | (have h_ := hk; simp only [and_assoc] at h_ ⊢; (repeat' apply And.intro) <;> (first | exact h_.1 | exact h_ | exact h_.2.1 | exact h_.2 | exact h_.2.2.1 | exact h_.2.2 | exact h_.2.2.2.1 | exact h_.2.2.2 | exact h_.2.2.2.2.1 | exact h_.2.2.2.2 | exact h_.2.2.2.2.2.1 | exact h_.2.2.2.2.2 | exact h_.2.2.2.2.2.2.1 | exact h_.2.2.2.2.2.2 | exact h_.2.2.2.2.2.2.2.1 | exact h_.2.2.2.2.2.2.2 | exact h_.2.2.2.2.2.2.2.2.1 | exact h_.2.2.2.2.2.2.2.2 | exact h_.2.2.2.2.2.2.2.2.2.1 | exact h_.2.2.2.2.2.2.2.2.2 | exact h_.2.2.2.2.2.2.2.2.2.2.1 | exact h_.2.2.2.2.2.2.2.2.2.2 | exact h_.2.2.2.2.2.2.2.2.2.2.2.1 | exact h_.2.2.2.2.2.2.2.2.2.2.2)))), (by (with_reducible repeat (first | apply Kd.R_alloc | apply Kd.R_drewN | apply Kd.R_drew)); exact Kd.R_mono HO292.out (fun _ hk => by first | exact ⟨hk.1.1.1.1.2, ⟨hk.1.1.1.2, ⟨hk.1.1.2, ⟨hk.1.2, hk.2⟩⟩⟩⟩ | (have h_ := hk; simp only [and_assoc] at h_ ⊢; (repeat' apply And.intro) <;> (first | exact h_.1 | exact h_ | exact h_.2.1 | exact h_.2 | exact h_.2.2.1 | exact h_.2.2 | exact h_.2.2.2.1 | exact h_.2.2.2 | exact h_.2.2.2.2.1 | exact h_.2.2.2.2 | exact h_.2.2.2.2.2.1 | exact h_.2.2.2.2.2 | exact h_.2.2.2.2.2.2.1 | exact h_.2.2.2.2.2.2 | exact h_.2.2.2.2.2.2.2.1 | exact h_.2.2.2.2.2.2.2 | exact h_.2.2.2.2.2.2.2.2.1 | exact h_.2.2.2.2.2.2.2.2 | exact h_.2.2.2.2.2.2.2.2.2.1 | exact h_.2.2.2.2.2.2.2.2.2 | exact h_.2.2.2.2.2.2.2.2.2.2.1 | exact h_.2.2.2.2.2.2.2.2.2.2 | exact h_.2.2.2.2.2.2.2.2.2.2.2.1 | exact h_.2.2.2.2.2.2.2.2.2.2.2)))), (by (with_reducible repeat (first | apply Kd.R_alloc | apply Kd.R_drewN | apply Kd.R_drew)); exact Kd.R_mono HO297.out (fun _ hk => by first | exact ⟨hk.1.1.1.1.2, ⟨hk.1.1.1.2, ⟨hk.1.1.2, ⟨hk.1.2, hk.2⟩⟩⟩⟩ | (have h_ := hk; simp only [and_assoc] at h_ ⊢; (repeat' apply And.intro) <;> (first | exact h_.1 | exact h_ | exact h_.2.1 | exact h_.2 | exact h_.2.2.1 | exact h_.2.2 | exact h_.2.2.2.1 | exact h_.2.2.2 | exact h_.2.2.2.2.1 | exact h_.2.2.2.2 | exact h_.2.2.2.2.2.1 | exact h_.2.2.2.2.2 | exact h_.2.2.2.2.2.2.1 | exact h_.2.2.2.2.2.2 | exact h_.2.2.2.2.2.2.2.1 | exact h_.2.2.2.2.2.2.2 | exact h_.2.2.2.2.2.2.2.2.1 | exact h_.2.2.2.2.2.2.2.2 | exact h_.2.2.2.2.2.2.2.2.2.1 | exact h_.2.2.2.2.2.2.2.2.2 | exact h_.2.2.2.2.2.2.2.2.2.2.1 | exact h_.2.2.2.2.2.2.2.2.2.2 | exact h_.2.2.2.2.2.2.2.2.2.2.2.1 | exact h_.2.2.2.2.2.2.2.2.2.2.2)))), (by repeat (first | (with_reducible first | exact HB.out | apply below_alloc | apply pw_below_drewN | apply below_drew1) | exact HB.out))⟩)
            rintro ⟨v291, v296⟩ w54 ⟨hS_, h0_, h1_, h2_, h3_, h4_, h5_, h6_, h7_, h8_, h9_, h10_, h11_⟩
            have n0_ : Aside0 (Kd.R k36 36 w54 w.heap.size (fun k_ => some k_ ≠ (.slice Ao39 t255.length co39 : Value).ownBlock ∧ some k_ ≠ (.slice Ao42 t264.length co42 : Value).ownBlock ∧ some k_ ≠ (.slice Ao49 t286.length co49 : Value).ownBlock ∧ some k_ ≠ (v291 : Value).ownBlock ∧ some k_ ≠ (v296 : Value).ownBlock) (.slice (some ad293) y252.length co37) y252) := ⟨h0_⟩
            have n1_ : Aside0 (Kd.R k36 36 w54 w.heap.size (fun k_ => some k_ ≠ (.slice (some ad293) y252.length co37 : Value).ownBlock ∧ some k_ ≠ (.slice Ao42 t264.length co42 : Value).ownBlock ∧ some k_ ≠ (.slice Ao49 t286.length co49 : Value).ownBlock ∧ some k_ ≠ (v291 : Value).ownBlock ∧ some k_ ≠ (v296 : Value).ownBlock) (.slice Ao39 t255.length co39) t255) := ⟨h1_⟩
            have n2_ : Aside0 (Kd.V k36 36 w54 w.heap.size (fun k_ => some k_ ≠ (.slice Ao39 t255.length co39 : Value).ownBlock ∧ some k_ ≠ (.slice Ao42 t264.length co42 : Value).ownBlock ∧ some k_ ≠ (.slice Ao47 y283.length co47 : Value).ownBlock ∧ some k_ ≠ (.slice Ao49 t286.length co49 : Value).ownBlock ∧ some k_ ≠ (v291 : Value).ownBlock ∧ some k_ ≠ (v296 : Value).ownBlock) (.slice A36 y258.length c36) y258) := ⟨h2_⟩
            have n3_ : Aside0 (Kd.R k36 36 w54 w.heap.size (fun k_ => some k_ ≠ (.slice (some ad293) y252.length co37 : Value).ownBlock ∧ some k_ ≠ (.slice Ao39 t255.length co39 : Value).ownBlock ∧ some k_ ≠ (.slice Ao49 t286.length co49 : Value).ownBlock ∧ some k_ ≠ (v291 : Value).ownBlock ∧ some k_ ≠ (v296 : Value).ownBlock) (.slice Ao42 t264.length co42) t264) := ⟨h3_⟩
            have n4_ : Aside0 (Kd.V k36 36 w54 w.heap.size (fun k_ => some k_ ≠ (.slice Ao39 t255.length co39 : Value).ownBlock ∧ some k_ ≠ (.slice Ao42 t264.length co42 : Value).ownBlock ∧ some k_ ≠ (.slice Ao47 y283.length co47 : Value).ownBlock ∧ some k_ ≠ (.slice Ao49 t286.length co49 : Value).ownBlock ∧ some k_ ≠ (v291 : Value).ownBlock ∧ some k_ ≠ (v296 : Value).ownBlock) (.slice A41 y267.length c41) y267) := ⟨h4_⟩
            have n5_ : Aside0 (Kd.V k36 36 w54 w.heap.size (fun k_ => some k_ ≠ (.slice Ao39 t255.length co39 : Value).ownBlock ∧ some k_ ≠ (.slice Ao42 t264.length co42 : Value).ownBlock ∧ some k_ ≠ (.slice Ao47 y283.length co47 : Value).ownBlock ∧ some k_ ≠ (.slice Ao49 t286.length co49 : Value).ownBlock ∧ some k_ ≠ (v291 : Value).ownBlock ∧ some k_ ≠ (v296 : Value).ownBlock) (.slice A43 y273.length c43) y273) := ⟨h5_⟩
            have n6_ : Aside0 (Kd.V k36 36 w54 w.heap.size (fun k_ => some k_ ≠ (.slice Ao39 t255.length co39 : Value).ownBlock ∧ some k_ ≠ (.slice Ao42 t264.length co42 : Value).ownBlock ∧ some k_ ≠ (.slice Ao47 y283.length co47 : Value).ownBlock ∧ some k_ ≠ (.slice Ao49 t286.length co49 : Value).ownBlock ∧ some k_ ≠ (v291 : Value).ownBlock ∧ some k_ ≠ (v296 : Value).ownBlock) (.slice (some ad293) y278.length co37) y278) := ⟨h6_⟩
            have n7_ : Aside0 (Kd.N (Kd.slice 36 k36) 27 w54 w.heap.size (fun k_ => some k_ ≠ (.slice Ao39 t255.length co39 : Value).ownBlock ∧ some k_ ≠ (.slice Ao42 t264.length co42 : Value).ownBlock ∧ some k_ ≠ (.slice Ao49 t286.length co49 : Value).ownBlock ∧ some k_ ≠ (v291 : Value).ownBlock ∧ some k_ ≠ (v296 : Value).ownBlock) (.slice Ao47 y283.length co47) y283) := ⟨h7_⟩
            have n8_ : Aside0 (Kd.R k36 36 w54 w.heap.size (fun k_ => some k_ ≠ (.slice (some ad293) y252.length co37 : Value).ownBlock ∧ some k_ ≠ (.slice Ao39 t255.length co39 : Value).ownBlock ∧ some k_ ≠ (.slice Ao42 t264.length co42 : Value).ownBlock ∧ some k_ ≠ (v291 : Value).ownBlock ∧ some k_ ≠ (v296 : Value).ownBlock) (.slice Ao49 t286.length co49) t286) := ⟨h8_⟩
            have n9_ : Aside0 (Kd.R k36 36 w54 w.heap.size (fun k_ => some k_ ≠ (.slice (some ad293) y252.length co37 : Value).ownBlock ∧ some k_ ≠ (.slice Ao39 t255.length co39 : Value).ownBlock ∧ some k_ ≠ (.slice Ao42 t264.length co42 : Value).ownBlock ∧ some k_ ≠ (.slice Ao49 t286.length co49 : Value).ownBlock ∧ some k_ ≠ (v296 : Value).ownBlock) v291 t290) := ⟨h9_⟩
            have n10_ : Aside0 (Kd.R k36 36 w54 w.heap.size (fun k_ => some k_ ≠ (.slice (some ad293) y252.length co37 : Value).ownBlock ∧ some k_ ≠ (.slice Ao39 t255.length co39 : Value).ownBlock ∧ some k_ ≠ (.slice Ao42 t264.length co42 : Value).ownBlock ∧ some k_ ≠ (.slice Ao49 t286.length co49 : Value).ownBlock ∧ some k_ ≠ (v291 : Value).ownBlock) v296 y295) := ⟨h10_⟩
            have n11_ : Aside0 (Below w.heap.size w w54) := ⟨h11_⟩
            clear HO254
            clear HO262
            clear HO257
            clear HO266
            clear HO271
            clear HO277
            clear HO282
            clear HO285
            clear HO288
            clear HB
            clear h0_ h1_ h2_ h3_ h4_ h5_ h6_ h7_ h8_ h9_ h10_ h11_
            have HO254 := n0_
            have HO257 := n1_
            have HO262 := n2_
            have HO266 := n3_
            have HO271 := n4_
            have HO277 := n5_
            have HO282 := n6_
            have HO285 := n7_
            have HO288 := n8_
            have HO292 := n9_
            have HO297 := n10_
            have HB := n11_
            clear n0_ n1_ n2_ n3_ n4_ n5_ n6_ n7_ n8_ n9_ n10_ n11_
            have hHeld : w54.cell? ad293 = some (.string ((rd_T36 y252 0).f0)) ∧ w54.cell? ⟨ad293.block, ad293.off + 1, none⟩ = some (.int .i64 ((rd_T36 y252 0).f1)) ∧ w54.cell? ⟨ad293.block, ad293.off + 2, none⟩ = some (.bool ((rd_T36 y252 0).f2)) ∧ w54.cell? ⟨ad293.block, ad293.off + 3, none⟩ = some (.string ((rd_T36 y252 0).f3)) ∧ w54.cell? ⟨ad293.block, ad293.off + 8, none⟩ = some (.string ((rd_T36 y252 2).f0)) ∧ w54.cell? ⟨ad293.block, ad293.off + 8 + 1, none⟩ = some (.int .i64 ((rd_T36 y252 2).f1)) ∧ w54.cell? ⟨ad293.block, ad293.off + 8 + 2, none⟩ = some (.bool ((rd_T36 y252 2).f2)) ∧ w54.cell? ⟨ad293.block, ad293.off + 8 + 3, none⟩ = some (.string ((rd_T36 y252 2).f3)) := hS_
            obtain ⟨Ao55, co55, eo55⟩ := Kd.R_slice HO292.out
            (first | subst eo55 | (injection eo55 with f1_ f2_ f3_; have f4_ := f1_.symm; have f5_ := f3_.symm; clear f1_ f2_ f3_; subst f4_; subst f5_))
            obtain ⟨Ao56, co56, eo56⟩ := Kd.R_slice HO297.out
            (first | subst eo56 | (injection eo56 with f1_ f2_ f3_; have f4_ := f1_.symm; have f5_ := f3_.symm; clear f1_ f2_ f3_; subst f4_; subst f5_))
            refine norm_ (a' := ?_) ?_ ?_
            rotate_left
            ·simp only [putAll, Act.put, List.setIfInBounds_toArray, List.set_cons_zero, List.set_cons_succ]
             rfl
            refine one_ (i := 9) (N := some 39) #[tt, tt, tt, tt, tt, tt, tt, tt, tt, tt, ff, ff, ff, ff, ff, ff, ff, ff, ff, ff, ff, ff, ff, ff, ff] rfl rfl (one_of HT_.out (by kernel_rfl)) (by decide) (fun K hK => ?_)
            refine goes_ Try.func13 (by kernel_rfl) rfl #[.slice Ao55 t290.length co55, .slice Ao56 y295.length co56] (by rfl) rfl rfl (by (try simp only [List.map_toArray, List.map_cons, List.map_nil]); first | done | rfl | (simp only [List.length_drop, List.length_take]; rfl)) ?_
            with_reducible refine (moultlaw12_same.calls k _ _ t290 _ _ y295 true _ ?side1 ?side2 ?side3 ?side4 A18.out).mono ?_
            (case side1 => repeat (first | exact (Kd.R_reads' HO292.out).2.2 | (with_reducible refine Kd.C_alloc ?_ _) | (with_reducible refine Kd.C_drewN ?_ _) | (with_reducible refine Kd.C_drew ?_)))
            (case side2 => exact (Kd.R_reads' HO292.out).2.1)
            (case side3 => repeat (first | exact (Kd.R_reads' HO297.out).2.2 | (with_reducible refine Kd.C_alloc ?_ _) | (with_reducible refine Kd.C_drewN ?_ _) | (with_reducible refine Kd.C_drew ?_)))
            (case side4 => exact (Kd.R_reads' HO297.out).2.1)
            rintro e w' ⟨rfl, ⟨nd, rfl⟩⟩
            refine ⟨_, rfl, ?_⟩
            refine hK.out _ _ ⟨hHeld.1, hHeld.2.1, hHeld.2.2.1, hHeld.2.2.2.1, hHeld.2.2.2.2.1, hHeld.2.2.2.2.2.1, hHeld.2.2.2.2.2.2.1, hHeld.2.2.2.2.2.2.2⟩ (fun hHeld => ?_)
            clear hK K
            refine norm_ (a' := ?_) ?_ ?_
            rotate_left
            ·show Act.put _ (some 39) _ = _
             simp only [Act.put, List.setIfInBounds_toArray, List.set_cons_zero, List.set_cons_succ, i64_w, i32_w]
             rfl
            refine pq_ (i := 10) (N := some 40) HT_ #[tt, tt, tt, tt, tt, tt, tt, tt, tt, tt, tt, ff, ff, ff, ff, ff, ff, ff, ff, ff, ff, ff, ff, ff, ff] ?_
            refine pq_ (i := 11) (N := some 41) HT_ #[tt, tt, tt, tt, tt, tt, tt, tt, tt, tt, tt, tt, ff, ff, ff, ff, ff, ff, ff, ff, ff, ff, ff, ff, ff] ?_
            refine pq_ (i := 14) (N := some 44) HT_ #[tt, tt, tt, tt, tt, tt, tt, tt, tt, tt, tt, tt, ff, ff, tt, ff, ff, ff, ff, ff, ff, ff, ff, ff, ff] ?_
            refine one_ (i := 12) (N := some 42) #[tt, tt, tt, tt, tt, tt, tt, tt, tt, tt, tt, tt, tt, ff, tt, ff, ff, ff, ff, ff, ff, ff, ff, ff, ff] rfl rfl (one_of HT_.out (by kernel_rfl)) (by decide) (fun K hK => ?_)
            refine Kd.R_lit_step (Kd.int .i64) _ 3 ?hg (N := 42) ?hd (xs := ([4] : List Int)) (inner := [.int .i64 4]) (ok := fun _ => True) (okp := fun _ => True) ?hr ?hp (fun _ hk => hk) trivial (Below.refl _ _) (Nat.le_refl _) (by simp) ?_; (case hd => rfl); (case hg => rfl); (case hr => first | (go_simp; done) | (go_simp; rfl)); (case hp => exact (Reps.one (show Kd.M (Kd.int .i64) _ _ _ 4 [.int .i64 4] from rfl) (Reps.none _ _)))
            intro v300 w57 ho58 hb hg_ hnew_
            have HS0_ := (hb.cell (World.block_lt_of_cell? _ _ (hHeld.1))).trans (hHeld.1)
            have HS1_ := (hb.cell (World.block_lt_of_cell? _ _ (hHeld.2.1))).trans (hHeld.2.1)
            have HS2_ := (hb.cell (World.block_lt_of_cell? _ _ (hHeld.2.2.1))).trans (hHeld.2.2.1)
            have HS3_ := (hb.cell (World.block_lt_of_cell? _ _ (hHeld.2.2.2.1))).trans (hHeld.2.2.2.1)
            have HS4_ := (hb.cell (World.block_lt_of_cell? _ _ (hHeld.2.2.2.2.1))).trans (hHeld.2.2.2.2.1)
            have HS5_ := (hb.cell (World.block_lt_of_cell? _ _ (hHeld.2.2.2.2.2.1))).trans (hHeld.2.2.2.2.2.1)
            have HS6_ := (hb.cell (World.block_lt_of_cell? _ _ (hHeld.2.2.2.2.2.2.1))).trans (hHeld.2.2.2.2.2.2.1)
            have HS7_ := (hb.cell (World.block_lt_of_cell? _ _ (hHeld.2.2.2.2.2.2.2))).trans (hHeld.2.2.2.2.2.2.2)
            clear hg_ hnew_
            (first | rw [← Ny299.out] at ho58 | (simp only [Int.reduceToNat] at ho58; rw [← Ny299.out] at ho58))
            have n0_ := Aside0.mk (Kd.R_below (by (with_reducible repeat (first | apply Kd.R_alloc | apply Kd.R_drewN | apply Kd.R_drew)); exact HO254.out) hb)
            have n1_ := Aside0.mk (Kd.V_elder' (by (with_reducible repeat (first | apply Kd.V_alloc | apply Kd.V_drewN | apply Kd.V_drew)); exact HO262.out) (Kd.R_base ho58) hb)
            have n2_ := Aside0.mk (Kd.R_below (by (with_reducible repeat (first | apply Kd.R_alloc | apply Kd.R_drewN | apply Kd.R_drew)); exact HO257.out) hb)
            have n3_ := Aside0.mk (Kd.R_below (by (with_reducible repeat (first | apply Kd.R_alloc | apply Kd.R_drewN | apply Kd.R_drew)); exact HO266.out) hb)
            have n4_ := Aside0.mk (Kd.V_elder' (by (with_reducible repeat (first | apply Kd.V_alloc | apply Kd.V_drewN | apply Kd.V_drew)); exact HO271.out) (Kd.R_base ho58) hb)
            have n5_ := Aside0.mk (Kd.V_elder' (by (with_reducible repeat (first | apply Kd.V_alloc | apply Kd.V_drewN | apply Kd.V_drew)); exact HO277.out) (Kd.R_base ho58) hb)
            have n6_ := Aside0.mk (Kd.V_elder' (by (with_reducible repeat (first | apply Kd.V_alloc | apply Kd.V_drewN | apply Kd.V_drew)); exact HO282.out) (Kd.R_base ho58) hb)
            have n7_ := Aside0.mk (Kd.N_elder' (by (with_reducible repeat (first | apply Kd.N_alloc | apply Kd.N_drewN | apply Kd.N_drew)); exact HO285.out) (Kd.R_base ho58) hb)
            have n8_ := Aside0.mk (Kd.R_below (by (with_reducible repeat (first | apply Kd.R_alloc | apply Kd.R_drewN | apply Kd.R_drew)); exact HO288.out) hb)
            have n9_ := Aside0.mk (Kd.R_below (by (with_reducible repeat (first | apply Kd.R_alloc | apply Kd.R_drewN | apply Kd.R_drew)); exact HO292.out) hb)
            have n10_ := Aside0.mk (Kd.R_below (by (with_reducible repeat (first | apply Kd.R_alloc | apply Kd.R_drewN | apply Kd.R_drew)); exact HO297.out) hb)
            have n11_ := Aside0.mk (Kd.R_lower ho58 (below_size (by repeat (first | (with_reducible first | exact HB.out | apply below_alloc | apply pw_below_drewN | apply below_drew1) | exact HB.out))))
            have n12_ := Aside0.mk (below_step (by repeat (first | (with_reducible first | exact HB.out | apply below_alloc | apply pw_below_drewN | apply below_drew1) | exact HB.out)) hb)
            clear HO254
            clear HO262
            clear HO257
            clear HO266
            clear HO271
            clear HO277
            clear HO282
            clear HO285
            clear HO288
            clear HO292
            clear HO297
            clear HB
            have HO254 := n0_
            have HO262 := n1_
            have HO257 := n2_
            have HO266 := n3_
            have HO271 := n4_
            have HO277 := n5_
            have HO282 := n6_
            have HO285 := n7_
            have HO288 := n8_
            have HO292 := n9_
            have HO297 := n10_
            have HO301 := n11_
            have HB := n12_
            clear n0_ n1_ n2_ n3_ n4_ n5_ n6_ n7_ n8_ n9_ n10_ n11_ n12_
            clear hb ho58
            obtain ⟨Ao59, co59, eo59⟩ := Kd.R_slice HO301.out
            (first | subst eo59 | (injection eo59 with f1_ f2_ f3_; have f4_ := f1_.symm; have f5_ := f3_.symm; clear f1_ f2_ f3_; subst f4_; subst f5_))
            refine hK.out _ _ ⟨HS0_, HS1_, HS2_, HS3_, HS4_, HS5_, HS6_, HS7_⟩ (fun hHeld => ?_)
            clear hK K
            refine norm_ (a' := ?_) ?_ ?_
            rotate_left
            ·show Act.put _ (some 42) _ = _
             simp only [Act.put, List.setIfInBounds_toArray, List.set_cons_zero, List.set_cons_succ, i64_w, i32_w]
             rfl
            refine one_ (i := 13) (N := some 43) #[tt, tt, tt, tt, tt, tt, tt, tt, tt, tt, tt, tt, tt, tt, tt, ff, ff, ff, ff, ff, ff, ff, ff, ff, ff] rfl rfl (one_of HT_.out (by kernel_rfl)) (by decide) (fun K hK => ?_)
            refine goes_ Try.func16 (by kernel_rfl) rfl #[.slice (some ad293) y252.length co37, .slice Ao59 y299.length co59, .bool false] (by rfl) rfl rfl (by (try simp only [List.map_toArray, List.map_cons, List.map_nil]); first | done | rfl | (simp only [List.length_drop, List.length_take]; rfl)) ?_
            with_reducible refine (merge_Thin.calls k _ _ y252 _ _ y299 false t302 _ ?side1 ?side2 ?side3 ?side4 A20.out).mono ?_
            (case side1 => repeat (first | exact (Kd.R_reads' HO254.out).2.2 | (with_reducible refine Kd.C_alloc ?_ _) | (with_reducible refine Kd.C_drewN ?_ _) | (with_reducible refine Kd.C_drew ?_)))
            (case side2 => exact (Kd.R_reads' HO254.out).2.1)
            (case side3 => repeat (first | exact (Kd.R_reads' HO301.out).2.2 | (with_reducible refine Kd.C_alloc ?_ _) | (with_reducible refine Kd.C_drewN ?_ _) | (with_reducible refine Kd.C_drew ?_)))
            (case side4 => exact (Kd.R_reads' HO301.out).2.1)
            rintro e w60 ⟨v303, rfl, ho0, hb⟩
            have HS0_ := (hb.cell (World.block_lt_of_cell? _ _ (hHeld.1))).trans (hHeld.1)
            have HS1_ := (hb.cell (World.block_lt_of_cell? _ _ (hHeld.2.1))).trans (hHeld.2.1)
            have HS2_ := (hb.cell (World.block_lt_of_cell? _ _ (hHeld.2.2.1))).trans (hHeld.2.2.1)
            have HS3_ := (hb.cell (World.block_lt_of_cell? _ _ (hHeld.2.2.2.1))).trans (hHeld.2.2.2.1)
            have HS4_ := (hb.cell (World.block_lt_of_cell? _ _ (hHeld.2.2.2.2.1))).trans (hHeld.2.2.2.2.1)
            have HS5_ := (hb.cell (World.block_lt_of_cell? _ _ (hHeld.2.2.2.2.2.1))).trans (hHeld.2.2.2.2.2.1)
            have HS6_ := (hb.cell (World.block_lt_of_cell? _ _ (hHeld.2.2.2.2.2.2.1))).trans (hHeld.2.2.2.2.2.2.1)
            have HS7_ := (hb.cell (World.block_lt_of_cell? _ _ (hHeld.2.2.2.2.2.2.2))).trans (hHeld.2.2.2.2.2.2.2)
            refine ⟨_, rfl, ?_⟩
            have n0_ := Aside0.mk (Kd.R_elder' (by (with_reducible repeat (first | apply Kd.R_alloc | apply Kd.R_drewN | apply Kd.R_drew)); exact HO254.out) (Kd.R_base ho0) hb)
            have n1_ := Aside0.mk (Kd.V_elder' (by (with_reducible repeat (first | apply Kd.V_alloc | apply Kd.V_drewN | apply Kd.V_drew)); exact HO262.out) (Kd.R_base ho0) hb)
            have n2_ := Aside0.mk (Kd.R_elder' (by (with_reducible repeat (first | apply Kd.R_alloc | apply Kd.R_drewN | apply Kd.R_drew)); exact HO257.out) (Kd.R_base ho0) hb)
            have n3_ := Aside0.mk (Kd.R_elder' (by (with_reducible repeat (first | apply Kd.R_alloc | apply Kd.R_drewN | apply Kd.R_drew)); exact HO266.out) (Kd.R_base ho0) hb)
            have n4_ := Aside0.mk (Kd.V_elder' (by (with_reducible repeat (first | apply Kd.V_alloc | apply Kd.V_drewN | apply Kd.V_drew)); exact HO271.out) (Kd.R_base ho0) hb)
            have n5_ := Aside0.mk (Kd.V_elder' (by (with_reducible repeat (first | apply Kd.V_alloc | apply Kd.V_drewN | apply Kd.V_drew)); exact HO277.out) (Kd.R_base ho0) hb)
            have n6_ := Aside0.mk (Kd.V_elder' (by (with_reducible repeat (first | apply Kd.V_alloc | apply Kd.V_drewN | apply Kd.V_drew)); exact HO282.out) (Kd.R_base ho0) hb)
            have n7_ := Aside0.mk (Kd.N_elder' (by (with_reducible repeat (first | apply Kd.N_alloc | apply Kd.N_drewN | apply Kd.N_drew)); exact HO285.out) (Kd.R_base ho0) hb)
            have n8_ := Aside0.mk (Kd.R_elder' (by (with_reducible repeat (first | apply Kd.R_alloc | apply Kd.R_drewN | apply Kd.R_drew)); exact HO288.out) (Kd.R_base ho0) hb)
            have n9_ := Aside0.mk (Kd.R_elder' (by (with_reducible repeat (first | apply Kd.R_alloc | apply Kd.R_drewN | apply Kd.R_drew)); exact HO292.out) (Kd.R_base ho0) hb)
            have n10_ := Aside0.mk (Kd.R_elder' (by (with_reducible repeat (first | apply Kd.R_alloc | apply Kd.R_drewN | apply Kd.R_drew)); exact HO297.out) (Kd.R_base ho0) hb)
            have n11_ := Aside0.mk (Kd.R_below (by (with_reducible repeat (first | apply Kd.R_alloc | apply Kd.R_drewN | apply Kd.R_drew)); exact HO301.out) hb)
            have n12_ := Aside0.mk (Kd.R_lower (Kd.R_new' (Kd.R_new' (Kd.R_new' (Kd.R_new' (Kd.R_new' (Kd.R_new' ho0 (Kd.R_lt (by (with_reducible repeat (first | apply Kd.R_alloc | apply Kd.R_drewN | apply Kd.R_drew)); exact HO254.out))) (Kd.R_lt (by (with_reducible repeat (first | apply Kd.R_alloc | apply Kd.R_drewN | apply Kd.R_drew)); exact HO257.out))) (Kd.R_lt (by (with_reducible repeat (first | apply Kd.R_alloc | apply Kd.R_drewN | apply Kd.R_drew)); exact HO266.out))) (Kd.R_lt (by (with_reducible repeat (first | apply Kd.R_alloc | apply Kd.R_drewN | apply Kd.R_drew)); exact HO288.out))) (Kd.R_lt (by (with_reducible repeat (first | apply Kd.R_alloc | apply Kd.R_drewN | apply Kd.R_drew)); exact HO292.out))) (Kd.R_lt (by (with_reducible repeat (first | apply Kd.R_alloc | apply Kd.R_drewN | apply Kd.R_drew)); exact HO297.out))) (below_size (by repeat (first | (with_reducible first | exact HB.out | apply below_alloc | apply pw_below_drewN | apply below_drew1) | exact HB.out))))
            have n13_ := Aside0.mk (below_step (by repeat (first | (with_reducible first | exact HB.out | apply below_alloc | apply pw_below_drewN | apply below_drew1) | exact HB.out)) hb)
            clear HO254
            clear HO262
            clear HO257
            clear HO266
            clear HO271
            clear HO277
            clear HO282
            clear HO285
            clear HO288
            clear HO292
            clear HO297
            clear HO301
            clear HB
            have HO254 := n0_
            have HO262 := n1_
            have HO257 := n2_
            have HO266 := n3_
            have HO271 := n4_
            have HO277 := n5_
            have HO282 := n6_
            have HO285 := n7_
            have HO288 := n8_
            have HO292 := n9_
            have HO297 := n10_
            have HO301 := n11_
            have HO304 := n12_
            have HB := n13_
            clear n0_ n1_ n2_ n3_ n4_ n5_ n6_ n7_ n8_ n9_ n10_ n11_ n12_ n13_
            (try clear hb)
            (try clear hb2)
            (try clear hk)
            (try clear hi)
            (try clear ho0)
            obtain ⟨Ao61, co61, eo61⟩ := Kd.R_slice HO304.out
            (first | subst eo61 | (injection eo61 with f1_ f2_ f3_; have f4_ := f1_.symm; have f5_ := f3_.symm; clear f1_ f2_ f3_; subst f4_; subst f5_))
            refine hK.out _ _ ⟨HS0_, HS1_, HS2_, HS3_, HS4_, HS5_, HS6_, HS7_⟩ (fun hHeld => ?_)
            clear hK K
            refine norm_ (a' := ?_) ?_ ?_
            rotate_left
            ·show Act.put _ (some 43) _ = _
             simp only [Act.put, List.setIfInBounds_toArray, List.set_cons_zero, List.set_cons_succ, i64_w, i32_w]
             rfl
            refine one_ (i := 15) (N := some 45) #[tt, tt, tt, tt, tt, tt, tt, tt, tt, tt, tt, tt, tt, tt, tt, tt, ff, ff, ff, ff, ff, ff, ff, ff, ff] rfl rfl (one_of HT_.out (by kernel_rfl)) (by decide) (fun K hK => ?_)
            refine goes_ Try.func13 (by kernel_rfl) rfl #[.slice Ao61 t302.length co61, .slice (some ad293) y252.length co37] (by rfl) rfl rfl (by (try simp only [List.map_toArray, List.map_cons, List.map_nil]); first | done | rfl | (simp only [List.length_drop, List.length_take]; rfl)) ?_
            with_reducible refine (moultlaw12_same.calls k _ _ t302 _ _ y252 true _ ?side1 ?side2 ?side3 ?side4 A21.out).mono ?_
            (case side1 => repeat (first | exact (Kd.R_reads' HO304.out).2.2 | (with_reducible refine Kd.C_alloc ?_ _) | (with_reducible refine Kd.C_drewN ?_ _) | (with_reducible refine Kd.C_drew ?_)))
            (case side2 => exact (Kd.R_reads' HO304.out).2.1)
            (case side3 => repeat (first | exact (Kd.R_reads' HO254.out).2.2 | (with_reducible refine Kd.C_alloc ?_ _) | (with_reducible refine Kd.C_drewN ?_ _) | (with_reducible refine Kd.C_drew ?_)))
            (case side4 => exact (Kd.R_reads' HO254.out).2.1)
            rintro e w' ⟨rfl, ⟨nd, rfl⟩⟩
            refine ⟨_, rfl, ?_⟩
            refine hK.out _ _ ⟨hHeld.1, hHeld.2.1, hHeld.2.2.1, hHeld.2.2.2.1, hHeld.2.2.2.2.1, hHeld.2.2.2.2.2.1, hHeld.2.2.2.2.2.2.1, hHeld.2.2.2.2.2.2.2⟩ (fun hHeld => ?_)
            clear hK K
            refine norm_ (a' := ?_) ?_ ?_
            rotate_left
            ·show Act.put _ (some 45) _ = _
             simp only [Act.put, List.setIfInBounds_toArray, List.set_cons_zero, List.set_cons_succ, i64_w, i32_w]
             rfl
            refine pq_ (i := 16) (N := some 46) HT_ #[tt, tt, tt, tt, tt, tt, tt, tt, tt, tt, tt, tt, tt, tt, tt, tt, tt, ff, ff, ff, ff, ff, ff, ff, ff] ?_
            refine pq_ (i := 17) (N := some 47) HT_ #[tt, tt, tt, tt, tt, tt, tt, tt, tt, tt, tt, tt, tt, tt, tt, tt, tt, tt, ff, ff, ff, ff, ff, ff, ff] ?_
            refine pq_ (i := 18) (N := some 48) HT_ #[tt, tt, tt, tt, tt, tt, tt, tt, tt, tt, tt, tt, tt, tt, tt, tt, tt, tt, tt, ff, ff, ff, ff, ff, ff] ?_
            refine pq_ (i := 20) (N := some 50) HT_ #[tt, tt, tt, tt, tt, tt, tt, tt, tt, tt, tt, tt, tt, tt, tt, tt, tt, tt, tt, ff, tt, ff, ff, ff, ff] ?_
            have q63 : (2 : Int) ≤ ((y252.length : Int) : Int) := of_decide_eq_true (by first | (with_reducible assumption) | assumption)
            obtain ⟨i063, hi063, _, hsz63, _⟩ := info_parts info36
            have hroom63 : y252.length ≤ co37 := (Kd.R_reads' HO254.out).2.1
            have hC63 : Kd.F k36 _ _ (some ad293) y252.length y252 := (Kd.V_at (base := w.heap.size) (Kd.R_V (Kd.R_apart' (Kd.R_apart' (HO254.out) (Kd.N_typed HO285.out) (by decide)) (Kd.R_typed HO301.out) (by decide)))).2.2
            try clear hcut43
            have hcut63 := cut_from (P := Try.prog) 27 36 .i64 Try.underlying27 hi063 4 hsz63 (some ad293) y252.length co37 2 (by omega) q63
            have hr63 := Kd.F_cut (m := (2 : Int).toNat) (c := co37) hC63 (by omega) hroom63
            obtain ⟨A63, hA63⟩ : ∃ A1, A1 = (if co37 = (2 : Int).toNat then (some ad293) else ((some ad293) : Option Addr).map (·.add ((2 : Int).toNat * 4))) := ⟨_, rfl⟩
            obtain ⟨c63, hc63⟩ : ∃ c1, c1 = co37 - (2 : Int).toNat := ⟨_, rfl⟩
            have hy63 : y309.length = y252.length - (2 : Int).toNat := (by rw [Ny309.out, List.length_drop] <;> omega)
            rw [show (y252).drop (2 : Int).toNat = y309 from Ny309.out.symm] at hr63
            replace hr63 : Kd.F k36 _ _ A63 y309.length y309 := (by rw [hA63]; exact hr63)
            rw [← hy63, ← hA63, ← hc63] at hcut63
            have HO313 := Aside0.mk (show Kd.V k36 36 _ w.heap.size _ (.slice A63 y309.length c63) y309 from Kd.V_mk (by rw [hy63, hc63]; exact Nat.sub_le_sub_right hroom63 _) hr63)
            have HC313 := Aside0.mk (show y309.length ≤ c63 from by rw [hy63, hc63]; exact Nat.sub_le_sub_right hroom63 _)
            clear hr63 hC63 hroom63 hi063 hsz63 hc63
            have KY63 := Aside0.mk hy63
            have KA63 := Aside0.mk hA63
            clear hy63 hA63
            replace q63 := eq_true q63
            refine pq_ (i := 21) (N := some 51) HT_ #[tt, tt, tt, tt, tt, tt, tt, tt, tt, tt, tt, tt, tt, tt, tt, tt, tt, tt, tt, ff, tt, tt, ff, ff, ff] ?_
            refine one_ (i := 19) (N := some 49) #[tt, tt, tt, tt, tt, tt, tt, tt, tt, tt, tt, tt, tt, tt, tt, tt, tt, tt, tt, tt, tt, tt, ff, ff, ff] rfl rfl (one_of HT_.out (by kernel_rfl)) (by decide) (fun K hK => ?_)
            refine goes_ Try.func16 (by kernel_rfl) rfl #[.slice (some ad293) y252.length co37, .slice none 0 0, .bool true] (by rfl) rfl rfl (by (try simp only [List.map_toArray, List.map_cons, List.map_nil]); first | done | rfl | (simp only [List.length_drop, List.length_take]; rfl)) ?_
            refine (merge_Thin.calls k _ _ y252 _ _ ([] : List Int) true t306 _ ?side1 ?side2 ?side3 ?side4 A23.out).mono ?_
            (case side1 => repeat (first | exact (Kd.R_reads' HO254.out).2.2 | (with_reducible refine Kd.C_alloc ?_ _) | (with_reducible refine Kd.C_drewN ?_ _) | (with_reducible refine Kd.C_drew ?_)))
            (case side2 => exact (Kd.R_reads' HO254.out).2.1)
            (case side3 => exact Kd.C_nil _ _)
            (case side4 => exact Nat.le_refl _)
            rintro e w62 ⟨v307, rfl, ho0, hb⟩
            have HS0_ := (hb.cell (World.block_lt_of_cell? _ _ (hHeld.1))).trans (hHeld.1)
            have HS1_ := (hb.cell (World.block_lt_of_cell? _ _ (hHeld.2.1))).trans (hHeld.2.1)
            have HS2_ := (hb.cell (World.block_lt_of_cell? _ _ (hHeld.2.2.1))).trans (hHeld.2.2.1)
            have HS3_ := (hb.cell (World.block_lt_of_cell? _ _ (hHeld.2.2.2.1))).trans (hHeld.2.2.2.1)
            have HS4_ := (hb.cell (World.block_lt_of_cell? _ _ (hHeld.2.2.2.2.1))).trans (hHeld.2.2.2.2.1)
            have HS5_ := (hb.cell (World.block_lt_of_cell? _ _ (hHeld.2.2.2.2.2.1))).trans (hHeld.2.2.2.2.2.1)
            have HS6_ := (hb.cell (World.block_lt_of_cell? _ _ (hHeld.2.2.2.2.2.2.1))).trans (hHeld.2.2.2.2.2.2.1)
            have HS7_ := (hb.cell (World.block_lt_of_cell? _ _ (hHeld.2.2.2.2.2.2.2))).trans (hHeld.2.2.2.2.2.2.2)
            refine ⟨_, rfl, ?_⟩
            have n0_ := Aside0.mk (Kd.R_elder' (by (with_reducible repeat (first | apply Kd.R_alloc | apply Kd.R_drewN | apply Kd.R_drew)); exact HO254.out) (Kd.R_base ho0) hb)
            have n1_ := Aside0.mk (Kd.V_elder' (by (with_reducible repeat (first | apply Kd.V_alloc | apply Kd.V_drewN | apply Kd.V_drew)); exact HO262.out) (Kd.R_base ho0) hb)
            have n1b_ := Aside0.mk (Kd.V_elder' (by (with_reducible repeat (first | apply Kd.V_alloc | apply Kd.V_drewN | apply Kd.V_drew)); exact HO313.out) (Kd.R_base ho0) hb)
            clear HO313
            have HO313 := n1b_
            clear n1b_
            have n2_ := Aside0.mk (Kd.R_elder' (by (with_reducible repeat (first | apply Kd.R_alloc | apply Kd.R_drewN | apply Kd.R_drew)); exact HO257.out) (Kd.R_base ho0) hb)
            have n3_ := Aside0.mk (Kd.R_elder' (by (with_reducible repeat (first | apply Kd.R_alloc | apply Kd.R_drewN | apply Kd.R_drew)); exact HO266.out) (Kd.R_base ho0) hb)
            have n4_ := Aside0.mk (Kd.V_elder' (by (with_reducible repeat (first | apply Kd.V_alloc | apply Kd.V_drewN | apply Kd.V_drew)); exact HO271.out) (Kd.R_base ho0) hb)
            have n5_ := Aside0.mk (Kd.V_elder' (by (with_reducible repeat (first | apply Kd.V_alloc | apply Kd.V_drewN | apply Kd.V_drew)); exact HO277.out) (Kd.R_base ho0) hb)
            have n6_ := Aside0.mk (Kd.V_elder' (by (with_reducible repeat (first | apply Kd.V_alloc | apply Kd.V_drewN | apply Kd.V_drew)); exact HO282.out) (Kd.R_base ho0) hb)
            have n7_ := Aside0.mk (Kd.N_elder' (by (with_reducible repeat (first | apply Kd.N_alloc | apply Kd.N_drewN | apply Kd.N_drew)); exact HO285.out) (Kd.R_base ho0) hb)
            have n8_ := Aside0.mk (Kd.R_elder' (by (with_reducible repeat (first | apply Kd.R_alloc | apply Kd.R_drewN | apply Kd.R_drew)); exact HO288.out) (Kd.R_base ho0) hb)
            have n9_ := Aside0.mk (Kd.R_elder' (by (with_reducible repeat (first | apply Kd.R_alloc | apply Kd.R_drewN | apply Kd.R_drew)); exact HO292.out) (Kd.R_base ho0) hb)
            have n10_ := Aside0.mk (Kd.R_elder' (by (with_reducible repeat (first | apply Kd.R_alloc | apply Kd.R_drewN | apply Kd.R_drew)); exact HO297.out) (Kd.R_base ho0) hb)
            have n11_ := Aside0.mk (Kd.R_below (by (with_reducible repeat (first | apply Kd.R_alloc | apply Kd.R_drewN | apply Kd.R_drew)); exact HO301.out) hb)
            have n12_ := Aside0.mk (Kd.R_elder' (by (with_reducible repeat (first | apply Kd.R_alloc | apply Kd.R_drewN | apply Kd.R_drew)); exact HO304.out) (Kd.R_base ho0) hb)
            have n13_ := Aside0.mk (Kd.R_lower (Kd.R_new' (Kd.R_new' (Kd.R_new' (Kd.R_new' (Kd.R_new' (Kd.R_new' (Kd.R_new' ho0 (Kd.R_lt (by (with_reducible repeat (first | apply Kd.R_alloc | apply Kd.R_drewN | apply Kd.R_drew)); exact HO254.out))) (Kd.R_lt (by (with_reducible repeat (first | apply Kd.R_alloc | apply Kd.R_drewN | apply Kd.R_drew)); exact HO257.out))) (Kd.R_lt (by (with_reducible repeat (first | apply Kd.R_alloc | apply Kd.R_drewN | apply Kd.R_drew)); exact HO266.out))) (Kd.R_lt (by (with_reducible repeat (first | apply Kd.R_alloc | apply Kd.R_drewN | apply Kd.R_drew)); exact HO288.out))) (Kd.R_lt (by (with_reducible repeat (first | apply Kd.R_alloc | apply Kd.R_drewN | apply Kd.R_drew)); exact HO292.out))) (Kd.R_lt (by (with_reducible repeat (first | apply Kd.R_alloc | apply Kd.R_drewN | apply Kd.R_drew)); exact HO297.out))) (Kd.R_lt (by (with_reducible repeat (first | apply Kd.R_alloc | apply Kd.R_drewN | apply Kd.R_drew)); exact HO304.out))) (below_size (by repeat (first | (with_reducible first | exact HB.out | apply below_alloc | apply pw_below_drewN | apply below_drew1) | exact HB.out))))
            have n14_ := Aside0.mk (below_step (by repeat (first | (with_reducible first | exact HB.out | apply below_alloc | apply pw_below_drewN | apply below_drew1) | exact HB.out)) hb)
            clear HO254
            clear HO262
            clear HO257
            clear HO266
            clear HO271
            clear HO277
            clear HO282
            clear HO285
            clear HO288
            clear HO292
            clear HO297
            clear HO301
            clear HO304
            clear HB
            have HO254 := n0_
            have HO262 := n1_
            have HO257 := n2_
            have HO266 := n3_
            have HO271 := n4_
            have HO277 := n5_
            have HO282 := n6_
            have HO285 := n7_
            have HO288 := n8_
            have HO292 := n9_
            have HO297 := n10_
            have HO301 := n11_
            have HO304 := n12_
            have HO308 := n13_
            have HB := n14_
            clear n0_ n1_ n2_ n3_ n4_ n5_ n6_ n7_ n8_ n9_ n10_ n11_ n12_ n13_ n14_
            (try clear hb)
            (try clear hb2)
            (try clear hk)
            (try clear hi)
            (try clear ho0)
            obtain ⟨Ao64, co64, eo64⟩ := Kd.R_slice HO308.out
            (first | subst eo64 | (injection eo64 with f1_ f2_ f3_; have f4_ := f1_.symm; have f5_ := f3_.symm; clear f1_ f2_ f3_; subst f4_; subst f5_))
            refine hK.out _ _ ⟨HS0_, HS1_, HS2_, HS3_, HS4_, HS5_, HS6_, HS7_⟩ (fun hHeld => ?_)
            clear hK K
            refine norm_ (a' := ?_) ?_ ?_
            rotate_left
            ·show Act.put _ (some 49) _ = _
             simp only [Act.put, List.setIfInBounds_toArray, List.set_cons_zero, List.set_cons_succ, i64_w, i32_w]
             rfl
            refine one_ (i := 22) (N := some 52) #[tt, tt, tt, tt, tt, tt, tt, tt, tt, tt, tt, tt, tt, tt, tt, tt, tt, tt, tt, tt, tt, tt, tt, ff, ff] rfl rfl (one_of HT_.out (by kernel_rfl)) (by decide) (fun K hK => ?_)
            refine goes_ Try.func13 (by kernel_rfl) rfl #[.slice Ao64 t306.length co64, .slice A63 y309.length c63] (by rfl) rfl rfl (by (try simp only [List.map_toArray, List.map_cons, List.map_nil]); first | done | rfl | (simp only [List.length_drop, List.length_take]; rfl)) ?_
            with_reducible refine (moultlaw12_same.calls k _ _ t306 _ _ y309 true _ ?side1 ?side2 ?side3 ?side4 A25.out).mono ?_
            (case side1 => repeat (first | exact (Kd.R_reads' HO308.out).2.2 | (with_reducible refine Kd.C_alloc ?_ _) | (with_reducible refine Kd.C_drewN ?_ _) | (with_reducible refine Kd.C_drew ?_)))
            (case side2 => exact (Kd.R_reads' HO308.out).2.1)
            (case side3 => repeat (first | exact (Kd.V_reads' HO313.out).2.2 | (with_reducible refine Kd.C_alloc ?_ _) | (with_reducible refine Kd.C_drewN ?_ _) | (with_reducible refine Kd.C_drew ?_)))
            (case side4 => exact (Kd.V_reads' HO313.out).2.1)
            rintro e w' ⟨rfl, ⟨nd, rfl⟩⟩
            refine ⟨_, rfl, ?_⟩
            refine hK.out _ _ ⟨hHeld.1, hHeld.2.1, hHeld.2.2.1, hHeld.2.2.2.1, hHeld.2.2.2.2.1, hHeld.2.2.2.2.2.1, hHeld.2.2.2.2.2.2.1, hHeld.2.2.2.2.2.2.2⟩ (fun hHeld => ?_)
            clear hK K
            refine norm_ (a' := ?_) ?_ ?_
            rotate_left
            ·show Act.put _ (some 52) _ = _
             simp only [Act.put, List.setIfInBounds_toArray, List.set_cons_zero, List.set_cons_succ, i64_w, i32_w]
             rfl
            refine pq_ (i := 23) (N := some 53) HT_ #[tt, tt, tt, tt, tt, tt, tt, tt, tt, tt, tt, tt, tt, tt, tt, tt, tt, tt, tt, tt, tt, tt, tt, tt, ff] ?_
            refine pq_ (i := 24) (N := some 3) HT_ #[tt, tt, tt, tt, tt, tt, tt, tt, tt, tt, tt, tt, tt, tt, tt, tt, tt, tt, tt, tt, tt, tt, tt, tt, tt] ?_
            refine done_ (done_of HT_.out (by kernel_rfl)) ?_
            try go_wp2
            (try (rw [drewN_self w62]; generalize hq_ : World.drewN w62 _ = w62; have n0_ : Aside0 (Kd.R k36 36 w62 w.heap.size (fun k_ => some k_ ≠ (.slice Ao39 t255.length co39 : Value).ownBlock ∧ some k_ ≠ (.slice Ao42 t264.length co42 : Value).ownBlock ∧ some k_ ≠ (.slice Ao49 t286.length co49 : Value).ownBlock ∧ some k_ ≠ (.slice Ao55 t290.length co55 : Value).ownBlock ∧ some k_ ≠ (.slice Ao56 y295.length co56 : Value).ownBlock ∧ some k_ ≠ (.slice Ao61 t302.length co61 : Value).ownBlock ∧ some k_ ≠ (.slice Ao64 t306.length co64 : Value).ownBlock) (.slice (some ad293) y252.length co37) y252) := ⟨by rw [← hq_]; exact (by (with_reducible repeat (first | apply Kd.R_alloc | apply Kd.R_drewN | apply Kd.R_drew)); exact Kd.R_mono HO254.out (fun _ hk => ⟨hk.1.1.1, ⟨hk.1.1.2.1, ⟨hk.1.1.2.2.1, ⟨hk.1.1.2.2.2.1, ⟨hk.1.1.2.2.2.2, ⟨hk.1.2, hk.2⟩⟩⟩⟩⟩⟩))⟩; have n1_ : Aside0 (Kd.R k36 36 w62 w.heap.size (fun k_ => some k_ ≠ (.slice (some ad293) y252.length co37 : Value).ownBlock ∧ some k_ ≠ (.slice Ao42 t264.length co42 : Value).ownBlock ∧ some k_ ≠ (.slice Ao49 t286.length co49 : Value).ownBlock ∧ some k_ ≠ (.slice Ao55 t290.length co55 : Value).ownBlock ∧ some k_ ≠ (.slice Ao56 y295.length co56 : Value).ownBlock ∧ some k_ ≠ (.slice Ao61 t302.length co61 : Value).ownBlock ∧ some k_ ≠ (.slice Ao64 t306.length co64 : Value).ownBlock) (.slice Ao39 t255.length co39) t255) := ⟨by rw [← hq_]; exact (by (with_reducible repeat (first | apply Kd.R_alloc | apply Kd.R_drewN | apply Kd.R_drew)); exact Kd.R_mono HO257.out (fun _ hk => ⟨hk.1.1.1, ⟨hk.1.1.2.1, ⟨hk.1.1.2.2.1, ⟨hk.1.1.2.2.2.1, ⟨hk.1.1.2.2.2.2, ⟨hk.1.2, hk.2⟩⟩⟩⟩⟩⟩))⟩; have n2_ : Aside0 (Kd.V k36 36 w62 w.heap.size (fun k_ => some k_ ≠ (.slice Ao39 t255.length co39 : Value).ownBlock ∧ some k_ ≠ (.slice Ao42 t264.length co42 : Value).ownBlock ∧ some k_ ≠ (.slice Ao47 y283.length co47 : Value).ownBlock ∧ some k_ ≠ (.slice Ao49 t286.length co49 : Value).ownBlock ∧ some k_ ≠ (.slice Ao55 t290.length co55 : Value).ownBlock ∧ some k_ ≠ (.slice Ao56 y295.length co56 : Value).ownBlock ∧ some k_ ≠ (.slice Ao59 y299.length co59 : Value).ownBlock ∧ some k_ ≠ (.slice Ao61 t302.length co61 : Value).ownBlock ∧ some k_ ≠ (.slice Ao64 t306.length co64 : Value).ownBlock) (.slice A36 y258.length c36) y258) := ⟨by rw [← hq_]; exact (by (with_reducible repeat (first | apply Kd.V_alloc | apply Kd.V_drewN | apply Kd.V_drew)); exact Kd.V_mono HO262.out (fun _ hk => ⟨hk.1.1.1.1, ⟨hk.1.1.1.2.1, ⟨hk.1.1.1.2.2.1, ⟨hk.1.1.1.2.2.2.1, ⟨hk.1.1.1.2.2.2.2.1, ⟨hk.1.1.1.2.2.2.2.2, ⟨hk.1.1.2, ⟨hk.1.2, hk.2⟩⟩⟩⟩⟩⟩⟩⟩))⟩; have n3_ : Aside0 (Kd.R k36 36 w62 w.heap.size (fun k_ => some k_ ≠ (.slice (some ad293) y252.length co37 : Value).ownBlock ∧ some k_ ≠ (.slice Ao39 t255.length co39 : Value).ownBlock ∧ some k_ ≠ (.slice Ao49 t286.length co49 : Value).ownBlock ∧ some k_ ≠ (.slice Ao55 t290.length co55 : Value).ownBlock ∧ some k_ ≠ (.slice Ao56 y295.length co56 : Value).ownBlock ∧ some k_ ≠ (.slice Ao61 t302.length co61 : Value).ownBlock ∧ some k_ ≠ (.slice Ao64 t306.length co64 : Value).ownBlock) (.slice Ao42 t264.length co42) t264) := ⟨by rw [← hq_]; exact (by (with_reducible repeat (first | apply Kd.R_alloc | apply Kd.R_drewN | apply Kd.R_drew)); exact Kd.R_mono HO266.out (fun _ hk => ⟨hk.1.1.1, ⟨hk.1.1.2.1, ⟨hk.1.1.2.2.1, ⟨hk.1.1.2.2.2.1, ⟨hk.1.1.2.2.2.2, ⟨hk.1.2, hk.2⟩⟩⟩⟩⟩⟩))⟩; have n4_ : Aside0 (Kd.V k36 36 w62 w.heap.size (fun k_ => some k_ ≠ (.slice Ao39 t255.length co39 : Value).ownBlock ∧ some k_ ≠ (.slice Ao42 t264.length co42 : Value).ownBlock ∧ some k_ ≠ (.slice Ao47 y283.length co47 : Value).ownBlock ∧ some k_ ≠ (.slice Ao49 t286.length co49 : Value).ownBlock ∧ some k_ ≠ (.slice Ao55 t290.length co55 : Value).ownBlock ∧ some k_ ≠ (.slice Ao56 y295.length co56 : Value).ownBlock ∧ some k_ ≠ (.slice Ao59 y299.length co59 : Value).ownBlock ∧ some k_ ≠ (.slice Ao61 t302.length co61 : Value).ownBlock ∧ some k_ ≠ (.slice Ao64 t306.length co64 : Value).ownBlock) (.slice A41 y267.length c41) y267) := ⟨by rw [← hq_]; exact (by (with_reducible repeat (first | apply Kd.V_alloc | apply Kd.V_drewN | apply Kd.V_drew)); exact Kd.V_mono HO271.out (fun _ hk => by first | exact ⟨hk.1.1.1.1, ⟨hk.1.1.1.2.1, ⟨hk.1.1.1.2.2.1, ⟨hk.1.1.1.2.2.2.1, ⟨hk.1.1.1.2.2.2.2.1, ⟨hk.1.1.1.2.2.2.2.2, ⟨hk.1.1.2, ⟨hk.1.2, hk.2⟩⟩⟩⟩⟩⟩⟩⟩ | (have h_ := hk; simp only [and_assoc] at h_ ⊢; (repeat' apply And.intro) <;> (first | exact h_.1 | exact h_ | exact h_.2.1 | exact h_.2 | exact h_.2.2.1 | exact h_.2.2 | exact h_.2.2.2.1 | exact h_.2.2.2 | exact h_.2.2.2.2.1 | exact h_.2.2.2.2 | exact h_.2.2.2.2.2.1 | exact h_.2.2.2.2.2 | exact h_.2.2.2.2.2.2.1 | exact h_.2.2.2.2.2.2 | exact h_.2.2.2.2.2.2.2.1 | exact h_.2.2.2.2.2.2.2 | exact h_.2.2.2.2.2.2.2.2.1 | exact h_.2.2.2.2.2.2.2.2 | exact h_.2.2.2.2.2.2.2.2.2.1 | exact h_.2.2.2.2.2.2.2.2.2 | exact h_.2.2.2.2.2.2.2.2.2.2.1 | exact h_.2.2.2.2.2.2.2.2.2.2 | exact h_.2.2.2.2.2.2.2.2.2.2.2.1 | exact h_.2.2.2.2.2.2.2.2.2.2.2))))⟩; have n5_ : Aside0 (Kd.V k36 36 w62 w.heap.size (fun k_ => some k_ ≠ (.slice Ao39 t255.length co39 : Value).ownBlock ∧ some k_ ≠ (.slice Ao42 t264.length co42 : Value).ownBlock ∧ some k_ ≠ (.slice Ao47 y283.length co47 : Value).ownBlock ∧ some k_ ≠ (.slice Ao49 t286.length co49 : Value).ownBlock ∧ some k_ ≠ (.slice Ao55 t290.length co55 : Value).ownBlock ∧ some k_ ≠ (.slice Ao56 y295.length co56 : Value).ownBlock ∧ some k_ ≠ (.slice Ao59 y299.length co59 : Value).ownBlock ∧ some k_ ≠ (.slice Ao61 t302.length co61 : Value).ownBlock ∧ some k_ ≠ (.slice Ao64 t306.length co64 : Value).ownBlock) (.slice A43 y273.length c43) y273) := ⟨by rw [← hq_]; exact (by (with_reducible repeat (first | apply Kd.V_alloc | apply Kd.V_drewN | apply Kd.V_drew)); exact Kd.V_mono HO277.out (fun _ hk => ⟨hk.1.1.1.1, ⟨hk.1.1.1.2.1, ⟨hk.1.1.1.2.2.1, ⟨hk.1.1.1.2.2.2.1, ⟨hk.1.1.1.2.2.2.2.1, ⟨hk.1.1.1.2.2.2.2.2, ⟨hk.1.1.2, ⟨hk.1.2, hk.2⟩⟩⟩⟩⟩⟩⟩⟩))⟩; have n6_ : Aside0 (Kd.V k36 36 w62 w.heap.size (fun k_ => some k_ ≠ (.slice Ao39 t255.length co39 : Value).ownBlock ∧ some k_ ≠ (.slice Ao42 t264.length co42 : Value).ownBlock ∧ some k_ ≠ (.slice Ao47 y283.length co47 : Value).ownBlock ∧ some k_ ≠ (.slice Ao49 t286.length co49 : Value).ownBlock ∧ some k_ ≠ (.slice Ao55 t290.length co55 : Value).ownBlock ∧ some k_ ≠ (.slice Ao56 y295.length co56 : Value).ownBlock ∧ some k_ ≠ (.slice Ao59 y299.length co59 : Value).ownBlock ∧ some k_ ≠ (.slice Ao61 t302.length co61 : Value).ownBlock ∧ some k_ ≠ (.slice Ao64 t306.length co64 : Value).ownBlock) (.slice (some ad293) y278.length co37) y278) := ⟨by rw [← hq_]; exact (by (with_reducible repeat (first | apply Kd.V_alloc | apply Kd.V_drewN | apply Kd.V_drew)); exact Kd.V_mono HO282.out (fun _ hk => ⟨hk.1.1.1.1, ⟨hk.1.1.1.2.1, ⟨hk.1.1.1.2.2.1, ⟨hk.1.1.1.2.2.2.1, ⟨hk.1.1.1.2.2.2.2.1, ⟨hk.1.1.1.2.2.2.2.2, ⟨hk.1.1.2, ⟨hk.1.2, hk.2⟩⟩⟩⟩⟩⟩⟩⟩))⟩; have n7_ : Aside0 (Kd.N (Kd.slice 36 k36) 27 w62 w.heap.size (fun k_ => some k_ ≠ (.slice Ao39 t255.length co39 : Value).ownBlock ∧ some k_ ≠ (.slice Ao42 t264.length co42 : Value).ownBlock ∧ some k_ ≠ (.slice Ao49 t286.length co49 : Value).ownBlock ∧ some k_ ≠ (.slice Ao55 t290.length co55 : Value).ownBlock ∧ some k_ ≠ (.slice Ao56 y295.length co56 : Value).ownBlock ∧ some k_ ≠ (.slice Ao59 y299.length co59 : Value).ownBlock ∧ some k_ ≠ (.slice Ao61 t302.length co61 : Value).ownBlock ∧ some k_ ≠ (.slice Ao64 t306.length co64 : Value).ownBlock) (.slice Ao47 y283.length co47) y283) := ⟨by rw [← hq_]; exact (by (with_reducible repeat (first | apply Kd.N_alloc | apply Kd.N_drewN | apply Kd.N_drew)); exact Kd.N_mono HO285.out (fun _ hk => ⟨hk.1.1.1.1, ⟨hk.1.1.1.2.1, ⟨hk.1.1.1.2.2.1, ⟨hk.1.1.1.2.2.2.1, ⟨hk.1.1.1.2.2.2.2, ⟨hk.1.1.2, ⟨hk.1.2, hk.2⟩⟩⟩⟩⟩⟩⟩))⟩; have n8_ : Aside0 (Kd.R k36 36 w62 w.heap.size (fun k_ => some k_ ≠ (.slice (some ad293) y252.length co37 : Value).ownBlock ∧ some k_ ≠ (.slice Ao39 t255.length co39 : Value).ownBlock ∧ some k_ ≠ (.slice Ao42 t264.length co42 : Value).ownBlock ∧ some k_ ≠ (.slice Ao55 t290.length co55 : Value).ownBlock ∧ some k_ ≠ (.slice Ao56 y295.length co56 : Value).ownBlock ∧ some k_ ≠ (.slice Ao61 t302.length co61 : Value).ownBlock ∧ some k_ ≠ (.slice Ao64 t306.length co64 : Value).ownBlock) (.slice Ao49 t286.length co49) t286) := ⟨by rw [← hq_]; exact (by (with_reducible repeat (first | apply Kd.R_alloc | apply Kd.R_drewN | apply Kd.R_drew)); exact Kd.R_mono HO288.out (fun _ hk => ⟨hk.1.1.1, ⟨hk.1.1.2.1, ⟨hk.1.1.2.2.1, ⟨hk.1.1.2.2.2.1, ⟨hk.1.1.2.2.2.2, ⟨hk.1.2, hk.2⟩⟩⟩⟩⟩⟩))⟩; have n9_ : Aside0 (Kd.R k36 36 w62 w.heap.size (fun k_ => some k_ ≠ (.slice (some ad293) y252.length co37 : Value).ownBlock ∧ some k_ ≠ (.slice Ao39 t255.length co39 : Value).ownBlock ∧ some k_ ≠ (.slice Ao42 t264.length co42 : Value).ownBlock ∧ some k_ ≠ (.slice Ao49 t286.length co49 : Value).ownBlock ∧ some k_ ≠ (.slice Ao56 y295.length co56 : Value).ownBlock ∧ some k_ ≠ (.slice Ao61 t302.length co61 : Value).ownBlock ∧ some k_ ≠ (.slice Ao64 t306.length co64 : Value).ownBlock) (.slice Ao55 t290.length co55) t290) := ⟨by rw [← hq_]; exact (by (with_reducible repeat (first | apply Kd.R_alloc | apply Kd.R_drewN | apply Kd.R_drew)); exact Kd.R_mono HO292.out (fun _ hk => ⟨hk.1.1.1, ⟨hk.1.1.2.1, ⟨hk.1.1.2.2.1, ⟨hk.1.1.2.2.2.1, ⟨hk.1.1.2.2.2.2, ⟨hk.1.2, hk.2⟩⟩⟩⟩⟩⟩))⟩; have n10_ : Aside0 (Kd.R k36 36 w62 w.heap.size (fun k_ => some k_ ≠ (.slice (some ad293) y252.length co37 : Value).ownBlock ∧ some k_ ≠ (.slice Ao39 t255.length co39 : Value).ownBlock ∧ some k_ ≠ (.slice Ao42 t264.length co42 : Value).ownBlock ∧ some k_ ≠ (.slice Ao49 t286.length co49 : Value).ownBlock ∧ some k_ ≠ (.slice Ao55 t290.length co55 : Value).ownBlock ∧ some k_ ≠ (.slice Ao61 t302.length co61 : Value).ownBlock ∧ some k_ ≠ (.slice Ao64 t306.length co64 : Value).ownBlock) (.slice Ao56 y295.length co56) y295) := ⟨by rw [← hq_]; exact (by (with_reducible repeat (first | apply Kd.R_alloc | apply Kd.R_drewN | apply Kd.R_drew)); exact Kd.R_mono HO297.out (fun _ hk => ⟨hk.1.1.1, ⟨hk.1.1.2.1, ⟨hk.1.1.2.2.1, ⟨hk.1.1.2.2.2.1, ⟨hk.1.1.2.2.2.2, ⟨hk.1.2, hk.2⟩⟩⟩⟩⟩⟩))⟩; have n11_ : Aside0 (Kd.R (Kd.int .i64) 3 w62 w.heap.size (fun _ => True) (.slice Ao59 y299.length co59) y299) := ⟨by rw [← hq_]; exact (by (with_reducible repeat (first | apply Kd.R_alloc | apply Kd.R_drewN | apply Kd.R_drew)); exact HO301.out)⟩; have n12_ : Aside0 (Kd.R k36 36 w62 w.heap.size (fun k_ => some k_ ≠ (.slice (some ad293) y252.length co37 : Value).ownBlock ∧ some k_ ≠ (.slice Ao39 t255.length co39 : Value).ownBlock ∧ some k_ ≠ (.slice Ao42 t264.length co42 : Value).ownBlock ∧ some k_ ≠ (.slice Ao49 t286.length co49 : Value).ownBlock ∧ some k_ ≠ (.slice Ao55 t290.length co55 : Value).ownBlock ∧ some k_ ≠ (.slice Ao56 y295.length co56 : Value).ownBlock ∧ some k_ ≠ (.slice Ao64 t306.length co64 : Value).ownBlock) (.slice Ao61 t302.length co61) t302) := ⟨by rw [← hq_]; exact (by (with_reducible repeat (first | apply Kd.R_alloc | apply Kd.R_drewN | apply Kd.R_drew)); exact Kd.R_mono HO304.out (fun _ hk => ⟨hk.1.1.1.1.1.1.2, ⟨hk.1.1.1.1.1.2, ⟨hk.1.1.1.1.2, ⟨hk.1.1.1.2, ⟨hk.1.1.2, ⟨hk.1.2, hk.2⟩⟩⟩⟩⟩⟩))⟩; have n13_ : Aside0 (Kd.R k36 36 w62 w.heap.size (fun k_ => some k_ ≠ (.slice (some ad293) y252.length co37 : Value).ownBlock ∧ some k_ ≠ (.slice Ao39 t255.length co39 : Value).ownBlock ∧ some k_ ≠ (.slice Ao42 t264.length co42 : Value).ownBlock ∧ some k_ ≠ (.slice Ao49 t286.length co49 : Value).ownBlock ∧ some k_ ≠ (.slice Ao55 t290.length co55 : Value).ownBlock ∧ some k_ ≠ (.slice Ao56 y295.length co56 : Value).ownBlock ∧ some k_ ≠ (.slice Ao61 t302.length co61 : Value).ownBlock) (.slice Ao64 t306.length co64) t306) := ⟨by rw [← hq_]; exact (by (with_reducible repeat (first | apply Kd.R_alloc | apply Kd.R_drewN | apply Kd.R_drew)); exact Kd.R_mono HO308.out (fun _ hk => ⟨hk.1.1.1.1.1.1.2, ⟨hk.1.1.1.1.1.2, ⟨hk.1.1.1.1.2, ⟨hk.1.1.1.2, ⟨hk.1.1.2, ⟨hk.1.2, hk.2⟩⟩⟩⟩⟩⟩))⟩; have n14_ : Aside0 (Kd.V k36 36 w62 w.heap.size (fun k_ => some k_ ≠ (.slice Ao39 t255.length co39 : Value).ownBlock ∧ some k_ ≠ (.slice Ao42 t264.length co42 : Value).ownBlock ∧ some k_ ≠ (.slice Ao47 y283.length co47 : Value).ownBlock ∧ some k_ ≠ (.slice Ao49 t286.length co49 : Value).ownBlock ∧ some k_ ≠ (.slice Ao55 t290.length co55 : Value).ownBlock ∧ some k_ ≠ (.slice Ao56 y295.length co56 : Value).ownBlock ∧ some k_ ≠ (.slice Ao59 y299.length co59 : Value).ownBlock ∧ some k_ ≠ (.slice Ao61 t302.length co61 : Value).ownBlock ∧ some k_ ≠ (.slice Ao64 t306.length co64 : Value).ownBlock) (.slice A63 y309.length c63) y309) := ⟨by rw [← hq_]; exact (by (with_reducible repeat (first | apply Kd.V_alloc | apply Kd.V_drewN | apply Kd.V_drew)); exact Kd.V_mono HO313.out (fun _ hk => by first | exact ⟨hk.1.1.1.1.1, ⟨hk.1.1.1.1.2.1, ⟨hk.1.2, ⟨hk.1.1.1.1.2.2.1, ⟨hk.1.1.1.1.2.2.2.1, ⟨hk.1.1.1.1.2.2.2.2, ⟨hk.2, ⟨hk.1.1.1.2, hk.1.1.2⟩⟩⟩⟩⟩⟩⟩⟩ | (have h_ := hk; simp only [and_assoc] at h_ ⊢; (repeat' apply And.intro) <;> (first | exact h_.1 | exact h_ | exact h_.2.1 | exact h_.2 | exact h_.2.2.1 | exact h_.2.2 | exact h_.2.2.2.1 | exact h_.2.2.2 | exact h_.2.2.2.2.1 | exact h_.2.2.2.2 | exact h_.2.2.2.2.2.1 | exact h_.2.2.2.2.2 | exact h_.2.2.2.2.2.2.1 | exact h_.2.2.2.2.2.2 | exact h_.2.2.2.2.2.2.2.1 | exact h_.2.2.2.2.2.2.2 | exact h_.2.2.2.2.2.2.2.2.1 | exact h_.2.2.2.2.2.2.2.2 | exact h_.2.2.2.2.2.2.2.2.2.1 | exact h_.2.2.2.2.2.2.2.2.2 | exact h_.2.2.2.2.2.2.2.2.2.2.1 | exact h_.2.2.2.2.2.2.2.2.2.2 | exact h_.2.2.2.2.2.2.2.2.2.2.2.1 | exact h_.2.2.2.2.2.2.2.2.2.2.2))))⟩; have n15_ : Aside0 (Below w.heap.size w w62) := ⟨by rw [← hq_]; exact (by repeat (first | (with_reducible first | exact HB.out | apply below_alloc | apply pw_below_drewN | apply below_drew1) | exact HB.out))⟩; clear HO254 HO257 HO262 HO266 HO271 HO277 HO282 HO285 HO288 HO292 HO297 HO301 HO304 HO308 HO313 HB hq_; have HO254 := n0_; have HO257 := n1_; have HO262 := n2_; have HO266 := n3_; have HO271 := n4_; have HO277 := n5_; have HO282 := n6_; have HO285 := n7_; have HO288 := n8_; have HO292 := n9_; have HO297 := n10_; have HO301 := n11_; have HO304 := n12_; have HO308 := n13_; have HO313 := n14_; have HB := n15_; clear n0_ n1_ n2_ n3_ n4_ n5_ n6_ n7_ n8_ n9_ n10_ n11_ n12_ n13_ n14_ n15_))
            have n0_ := Aside0.mk (Kd.R_drew HO254.out)
            have n1_ := Aside0.mk (Kd.V_drew HO262.out)
            have n2_ := Aside0.mk (Kd.R_drew HO257.out)
            have n3_ := Aside0.mk (Kd.R_drew HO266.out)
            have n4_ := Aside0.mk (Kd.V_drew HO271.out)
            have n5_ := Aside0.mk (Kd.V_drew HO277.out)
            have n6_ := Aside0.mk (Kd.V_drew HO282.out)
            have n7_ := Aside0.mk (Kd.N_drew HO285.out)
            have n8_ := Aside0.mk (Kd.R_drew HO288.out)
            have n9_ := Aside0.mk (Kd.R_drew HO292.out)
            have n10_ := Aside0.mk (Kd.R_drew HO297.out)
            have n11_ := Aside0.mk (Kd.R_drew HO301.out)
            have n12_ := Aside0.mk (Kd.R_drew HO304.out)
            have n13_ := Aside0.mk (Kd.R_drew HO308.out)
            have n14_ := Aside0.mk (Kd.V_drew HO313.out)
            have n15_ := Aside0.mk (below_drew1 HB.out)
            clear HO254
            clear HO262
            clear HO257
            clear HO266
            clear HO271
            clear HO277
            clear HO282
            clear HO285
            clear HO288
            clear HO292
            clear HO297
            clear HO301
            clear HO304
            clear HO308
            clear HO313
            clear HB
            have HO254 := n0_
            have HO262 := n1_
            have HO257 := n2_
            have HO266 := n3_
            have HO271 := n4_
            have HO277 := n5_
            have HO282 := n6_
            have HO285 := n7_
            have HO288 := n8_
            have HO292 := n9_
            have HO297 := n10_
            have HO301 := n11_
            have HO304 := n12_
            have HO308 := n13_
            have HO313 := n14_
            have HB := n15_
            clear n0_ n1_ n2_ n3_ n4_ n5_ n6_ n7_ n8_ n9_ n10_ n11_ n12_ n13_ n14_ n15_
            have p316 : 0 ≤ (2 : Int) := (by omega)
            have q316 : 2 < (y252.length : Int) := of_decide_eq_true (by first | (with_reducible assumption) | assumption)
            obtain ⟨ad316, e316, hx316_0, hx316_1, hx316_2, hx316_3⟩ := at_T36 (Kd.R_reads' HO254.out).2.2 2 p316 q316
            obtain rfl : ad293 = ad316 := (by injection e316)
            (try simp only [show (2 : Int).toNat = 2 from rfl, Nat.reduceMul, Nat.reduceEqDiff, Go.Addr.add, ↓reduceIte] at hx316_0)
            (try simp only [show (2 : Int).toNat = 2 from rfl, Nat.reduceMul, Nat.reduceEqDiff, Go.Addr.add, ↓reduceIte] at hx316_1)
            (try simp only [show (2 : Int).toNat = 2 from rfl, Nat.reduceMul, Nat.reduceEqDiff, Go.Addr.add, ↓reduceIte] at hx316_2)
            (try simp only [show (2 : Int).toNat = 2 from rfl, Nat.reduceMul, Nat.reduceEqDiff, Go.Addr.add, ↓reduceIte] at hx316_3)
            have qi316 : (2 < y252.length) = True := eq_true (by omega)
            (try rw [show ((2 : Int)).toNat = 2 from rfl] at hx316_0)
            (try rw [show 2 * 4 = 8 from rfl] at hx316_0)
            (try rw [show ((2 : Int)).toNat = 2 from rfl] at hx316_1)
            (try rw [show 2 * 4 = 8 from rfl] at hx316_1)
            (try rw [show ((2 : Int)).toNat = 2 from rfl] at hx316_2)
            (try rw [show 2 * 4 = 8 from rfl] at hx316_2)
            (try rw [show ((2 : Int)).toNat = 2 from rfl] at hx316_3)
            (try rw [show 2 * 4 = 8 from rfl] at hx316_3)
            replace p316 := eq_true p316
            replace q316 := eq_true q316
            have p317 : 0 ≤ (0 : Int) := (by omega)
            have q317 : 0 < (y252.length : Int) := of_decide_eq_true (by first | (with_reducible assumption) | assumption)
            obtain ⟨ad317, e317, hx317_0, hx317_1, hx317_2, hx317_3⟩ := at_T36 (Kd.R_reads' HO254.out).2.2 0 p317 q317
            obtain rfl : ad293 = ad317 := (by injection e317)
            have qi317 : (0 < y252.length) = True := eq_true (by omega)
            (try rw [show ((0 : Int)).toNat = 0 from rfl] at hx317_0)
            (try rw [show 0 * 4 = 0 from rfl] at hx317_0)
            (try rw [Addr.add_zero'] at hx317_0)
            (try rw [show ((0 : Int)).toNat = 0 from rfl] at hx317_1)
            (try rw [show 0 * 4 = 0 from rfl] at hx317_1)
            (try rw [Addr.add_zero'] at hx317_1)
            (try rw [show ((0 : Int)).toNat = 0 from rfl] at hx317_2)
            (try rw [show 0 * 4 = 0 from rfl] at hx317_2)
            (try rw [Addr.add_zero'] at hx317_2)
            (try rw [show ((0 : Int)).toNat = 0 from rfl] at hx317_3)
            (try rw [show 0 * 4 = 0 from rfl] at hx317_3)
            (try rw [Addr.add_zero'] at hx317_3)
            replace p317 := eq_true p317
            replace q317 := eq_true q317
            refine start_ (n := 20) (S := fun w' => w'.cell? ⟨ad293.block, ad293.off + 8, none⟩ = some (.string ((rd_T36 y252 2).f0)) ∧ w'.cell? ⟨ad293.block, ad293.off + 8 + 1, none⟩ = some (.int .i64 ((rd_T36 y252 2).f1)) ∧ w'.cell? ⟨ad293.block, ad293.off + 8 + 2, none⟩ = some (.bool ((rd_T36 y252 2).f2)) ∧ w'.cell? ⟨ad293.block, ad293.off + 8 + 3, none⟩ = some (.string ((rd_T36 y252 2).f3)) ∧ w'.cell? ad293 = some (.string ((rd_T36 y252 0).f0)) ∧ w'.cell? ⟨ad293.block, ad293.off + 1, none⟩ = some (.int .i64 ((rd_T36 y252 0).f1)) ∧ w'.cell? ⟨ad293.block, ad293.off + 2, none⟩ = some (.bool ((rd_T36 y252 0).f2)) ∧ w'.cell? ⟨ad293.block, ad293.off + 3, none⟩ = some (.string ((rd_T36 y252 0).f3))) (ds := []) #[ff, ff, ff, ff, ff, ff, ff, ff, ff, ff, ff, ff, ff, ff, ff, ff, ff, ff, ff, ff] (by kernel_rfl) rfl rfl ⟨hx316_0, hx316_1, hx316_2, hx316_3, hx317_0, hx317_1, hx317_2, hx317_3⟩ (fun hHeld => ?_); refine with_tabW moultlaw12_shown.tab4 moultlaw12_shown.bits4 (fun HT_ HW_ => ?_)
            generalize w62.drew = w65 at HO254 HO262 HO257 HO266 HO271 HO277 HO282 HO285 HO288 HO292 HO297 HO301 HO304 HO308 HO313 HB hx316_0 hx316_1 hx316_2 hx316_3 hx317_0 hx317_1 hx317_2 hx317_3 hHeld ⊢
            refine pq_ (i := 0) (N := some 54) HT_ #[tt, ff, ff, ff, ff, ff, ff, ff, ff, ff, ff, ff, ff, ff, ff, ff, ff, ff, ff, ff] ?_
            refine pq_ (i := 1) (N := some 55) HT_ #[tt, tt, ff, ff, ff, ff, ff, ff, ff, ff, ff, ff, ff, ff, ff, ff, ff, ff, ff, ff] ?_
            refine pq_ (i := 2) (N := some 56) HT_ #[tt, tt, tt, ff, ff, ff, ff, ff, ff, ff, ff, ff, ff, ff, ff, ff, ff, ff, ff, ff] ?_
            refine pq_ (i := 3) (N := some 57) HT_ #[tt, tt, tt, tt, ff, ff, ff, ff, ff, ff, ff, ff, ff, ff, ff, ff, ff, ff, ff, ff] ?_
            refine pq_ (i := 4) (N := some 58) HT_ #[tt, tt, tt, tt, tt, ff, ff, ff, ff, ff, ff, ff, ff, ff, ff, ff, ff, ff, ff, ff] ?_
            refine pq_ (i := 5) (N := some 59) HT_ #[tt, tt, tt, tt, tt, tt, ff, ff, ff, ff, ff, ff, ff, ff, ff, ff, ff, ff, ff, ff] ?_
            refine one_ (i := 6) (N := some 60) #[tt, tt, tt, tt, tt, tt, tt, ff, ff, ff, ff, ff, ff, ff, ff, ff, ff, ff, ff, ff] rfl rfl (one_of HT_.out (by kernel_rfl)) (by decide) (fun K hK => ?_)
            refine goes_ Try.func19 (by kernel_rfl) rfl #[.slice (some ad293) y252.length co37] (by rfl) rfl rfl (by (try simp only [List.map_toArray, List.map_cons, List.map_nil]); first | done | rfl | (simp only [List.length_drop, List.length_take]; rfl)) ?_
            with_reducible refine (merge_Sorted.calls k _ _ y252 true _ ?side1 ?side2 A28.out).mono ?_
            (case side1 => repeat (first | exact (Kd.R_reads' HO254.out).2.2 | (with_reducible refine Kd.C_alloc ?_ _) | (with_reducible refine Kd.C_drewN ?_ _) | (with_reducible refine Kd.C_drew ?_)))
            (case side2 => exact (Kd.R_reads' HO254.out).2.1)
            rintro e w66 ⟨rfl, hb⟩
            have HS0_ := (hb.cell (World.block_lt_of_cell? _ _ (hHeld.1))).trans (hHeld.1)
            have HS1_ := (hb.cell (World.block_lt_of_cell? _ _ (hHeld.2.1))).trans (hHeld.2.1)
            have HS2_ := (hb.cell (World.block_lt_of_cell? _ _ (hHeld.2.2.1))).trans (hHeld.2.2.1)
            have HS3_ := (hb.cell (World.block_lt_of_cell? _ _ (hHeld.2.2.2.1))).trans (hHeld.2.2.2.1)
            have HS4_ := (hb.cell (World.block_lt_of_cell? _ _ (hHeld.2.2.2.2.1))).trans (hHeld.2.2.2.2.1)
            have HS5_ := (hb.cell (World.block_lt_of_cell? _ _ (hHeld.2.2.2.2.2.1))).trans (hHeld.2.2.2.2.2.1)
            have HS6_ := (hb.cell (World.block_lt_of_cell? _ _ (hHeld.2.2.2.2.2.2.1))).trans (hHeld.2.2.2.2.2.2.1)
            have HS7_ := (hb.cell (World.block_lt_of_cell? _ _ (hHeld.2.2.2.2.2.2.2))).trans (hHeld.2.2.2.2.2.2.2)
            refine ⟨_, rfl, ?_⟩
            have n0_ := Aside0.mk (Kd.R_below (by (with_reducible repeat (first | apply Kd.R_alloc | apply Kd.R_drewN | apply Kd.R_drew)); exact HO254.out) hb)
            have n1_ := Aside0.mk (Kd.V_below (by (with_reducible repeat (first | apply Kd.V_alloc | apply Kd.V_drewN | apply Kd.V_drew)); exact HO262.out) hb)
            have n2_ := Aside0.mk (Kd.R_below (by (with_reducible repeat (first | apply Kd.R_alloc | apply Kd.R_drewN | apply Kd.R_drew)); exact HO257.out) hb)
            have n3_ := Aside0.mk (Kd.R_below (by (with_reducible repeat (first | apply Kd.R_alloc | apply Kd.R_drewN | apply Kd.R_drew)); exact HO266.out) hb)
            have n4_ := Aside0.mk (Kd.V_below (by (with_reducible repeat (first | apply Kd.V_alloc | apply Kd.V_drewN | apply Kd.V_drew)); exact HO271.out) hb)
            have n5_ := Aside0.mk (Kd.V_below (by (with_reducible repeat (first | apply Kd.V_alloc | apply Kd.V_drewN | apply Kd.V_drew)); exact HO277.out) hb)
            have n6_ := Aside0.mk (Kd.V_below (by (with_reducible repeat (first | apply Kd.V_alloc | apply Kd.V_drewN | apply Kd.V_drew)); exact HO282.out) hb)
            have n7_ := Aside0.mk (Kd.N_below (by (with_reducible repeat (first | apply Kd.N_alloc | apply Kd.N_drewN | apply Kd.N_drew)); exact HO285.out) hb)
            have n8_ := Aside0.mk (Kd.R_below (by (with_reducible repeat (first | apply Kd.R_alloc | apply Kd.R_drewN | apply Kd.R_drew)); exact HO288.out) hb)
            have n9_ := Aside0.mk (Kd.R_below (by (with_reducible repeat (first | apply Kd.R_alloc | apply Kd.R_drewN | apply Kd.R_drew)); exact HO292.out) hb)
            have n10_ := Aside0.mk (Kd.R_below (by (with_reducible repeat (first | apply Kd.R_alloc | apply Kd.R_drewN | apply Kd.R_drew)); exact HO297.out) hb)
            have n11_ := Aside0.mk (Kd.R_below (by (with_reducible repeat (first | apply Kd.R_alloc | apply Kd.R_drewN | apply Kd.R_drew)); exact HO301.out) hb)
            have n12_ := Aside0.mk (Kd.R_below (by (with_reducible repeat (first | apply Kd.R_alloc | apply Kd.R_drewN | apply Kd.R_drew)); exact HO304.out) hb)
            have n13_ := Aside0.mk (Kd.R_below (by (with_reducible repeat (first | apply Kd.R_alloc | apply Kd.R_drewN | apply Kd.R_drew)); exact HO308.out) hb)
            have n14_ := Aside0.mk (Kd.V_below (by (with_reducible repeat (first | apply Kd.V_alloc | apply Kd.V_drewN | apply Kd.V_drew)); exact HO313.out) hb)
            have n15_ := Aside0.mk (below_step (by repeat (first | (with_reducible first | exact HB.out | apply below_alloc | apply pw_below_drewN | apply below_drew1) | exact HB.out)) hb)
            clear HO254
            clear HO262
            clear HO257
            clear HO266
            clear HO271
            clear HO277
            clear HO282
            clear HO285
            clear HO288
            clear HO292
            clear HO297
            clear HO301
            clear HO304
            clear HO308
            clear HO313
            clear HB
            have HO254 := n0_
            have HO262 := n1_
            have HO257 := n2_
            have HO266 := n3_
            have HO271 := n4_
            have HO277 := n5_
            have HO282 := n6_
            have HO285 := n7_
            have HO288 := n8_
            have HO292 := n9_
            have HO297 := n10_
            have HO301 := n11_
            have HO304 := n12_
            have HO308 := n13_
            have HO313 := n14_
            have HB := n15_
            clear n0_ n1_ n2_ n3_ n4_ n5_ n6_ n7_ n8_ n9_ n10_ n11_ n12_ n13_ n14_ n15_
            (try clear hb)
            (try clear hb2)
            (try clear hk)
            (try clear hi)
            refine hK.out _ _ ⟨HS0_, HS1_, HS2_, HS3_, HS4_, HS5_, HS6_, HS7_⟩ (fun hHeld => ?_)
            clear hK K
            refine norm_ (a' := ?_) ?_ ?_
            rotate_left
            ·show Act.put _ (some 60) _ = _
             simp only [Act.put, List.setIfInBounds_toArray, List.set_cons_zero, List.set_cons_succ, i64_w, i32_w]
             rfl
            refine pq_ (i := 7) (N := some 61) HT_ #[tt, tt, tt, tt, tt, tt, tt, tt, ff, ff, ff, ff, ff, ff, ff, ff, ff, ff, ff, ff] ?_
            refine pq_ (i := 8) (N := some 62) HT_ #[tt, tt, tt, tt, tt, tt, tt, tt, tt, ff, ff, ff, ff, ff, ff, ff, ff, ff, ff, ff] ?_
            refine pq_ (i := 9) (N := some 63) HT_ #[tt, tt, tt, tt, tt, tt, tt, tt, tt, tt, ff, ff, ff, ff, ff, ff, ff, ff, ff, ff] ?_
            refine pq_ (i := 10) (N := some 64) HT_ #[tt, tt, tt, tt, tt, tt, tt, tt, tt, tt, tt, ff, ff, ff, ff, ff, ff, ff, ff, ff] ?_
            refine pq_ (i := 12) (N := some 66) HT_ #[tt, tt, tt, tt, tt, tt, tt, tt, tt, tt, tt, ff, tt, ff, ff, ff, ff, ff, ff, ff] ?_
            refine pq_ (i := 13) (N := some 67) HT_ #[tt, tt, tt, tt, tt, tt, tt, tt, tt, tt, tt, ff, tt, tt, ff, ff, ff, ff, ff, ff] ?_
            refine take_ (i := 11) (N := some 65) (v := ?_) (a' := ?_) #[tt, tt, tt, tt, tt, tt, tt, tt, tt, tt, tt, tt, tt, tt, ff, ff, ff, ff, ff, ff] rfl rfl (take_ofW HT_.out HW_.out (by kernel_rfl)) (fun _ _ _ h => h) (Or.inl ⟨by rfl, ?_⟩) hHeld ?_ ?_
            rotate_left
            ·rintro w' ⟨s0, s1, s2, s3, s4, s5, s6, s7⟩
             go_simp
             with_reducible rfl
            rotate_left
            ·simp only [Act.put, List.setIfInBounds_toArray, List.set_cons_zero, List.set_cons_succ, i64_w, i32_w]
             rfl
            refine take_ (i := 14) (N := some 68) (v := ?_) (a' := ?_) #[tt, tt, tt, tt, tt, tt, tt, tt, tt, tt, tt, tt, tt, tt, tt, ff, ff, ff, ff, ff] rfl rfl (take_ofW HT_.out HW_.out (by kernel_rfl)) (fun _ _ _ h => h) (Or.inl ⟨by rfl, ?_⟩) hHeld ?_ ?_
            rotate_left
            ·rintro w' ⟨s0, s1, s2, s3, s4, s5, s6, s7⟩
             go_simp
             with_reducible rfl
            rotate_left
            ·simp only [Act.put, List.setIfInBounds_toArray, List.set_cons_zero, List.set_cons_succ, i64_w, i32_w]
             rfl
            refine one_ (i := 15) (N := some 69) #[tt, tt, tt, tt, tt, tt, tt, tt, tt, tt, tt, tt, tt, tt, tt, tt, ff, ff, ff, ff] rfl rfl (one_of HT_.out (by kernel_rfl)) (by decide) (fun K hK => ?_)
            refine Kd.R_lit_step k36 _ 36 ?hg (N := 69) ?hd (xs := ([(⟨(rd_T36 y252 2).f0, (rd_T36 y252 2).f1, (rd_T36 y252 2).f2, (rd_T36 y252 2).f3⟩ : S36), (⟨(rd_T36 y252 0).f0, (rd_T36 y252 0).f1, (rd_T36 y252 0).f2, (rd_T36 y252 0).f3⟩ : S36)] : List (S36))) (inner := [.string ((rd_T36 y252 2).f0), .int .i64 ((rd_T36 y252 2).f1), .bool ((rd_T36 y252 2).f2), .string ((rd_T36 y252 2).f3), .string ((rd_T36 y252 0).f0), .int .i64 ((rd_T36 y252 0).f1), .bool ((rd_T36 y252 0).f2), .string ((rd_T36 y252 0).f3)]) (ok := fun _ => True) (okp := fun _ => True) ?hr ?hp (fun _ hk => hk) trivial (Below.refl _ _) (Nat.le_refl _) (by simp) ?_; (case hd => rfl); (case hg => rfl); (case hr => first | (go_simp; done) | (go_simp; rfl)); (case hp => exact (Reps.c4 (show Kd.M k36 _ _ _ (⟨(rd_T36 y252 2).f0, (rd_T36 y252 2).f1, (rd_T36 y252 2).f2, (rd_T36 y252 2).f3⟩ : S36) [.string ((rd_T36 y252 2).f0), .int .i64 ((rd_T36 y252 2).f1), .bool ((rd_T36 y252 2).f2), .string ((rd_T36 y252 2).f3)] from (k36_mkM _ _ _ (⟨(rd_T36 y252 2).f0, (rd_T36 y252 2).f1, (rd_T36 y252 2).f2, (rd_T36 y252 2).f3⟩ : S36) )) (Reps.c4 (show Kd.M k36 _ _ _ (⟨(rd_T36 y252 0).f0, (rd_T36 y252 0).f1, (rd_T36 y252 0).f2, (rd_T36 y252 0).f3⟩ : S36) [.string ((rd_T36 y252 0).f0), .int .i64 ((rd_T36 y252 0).f1), .bool ((rd_T36 y252 0).f2), .string ((rd_T36 y252 0).f3)] from (k36_mkM _ _ _ (⟨(rd_T36 y252 0).f0, (rd_T36 y252 0).f1, (rd_T36 y252 0).f2, (rd_T36 y252 0).f3⟩ : S36) )) (Reps.none _ _))))
            intro v319 w67 ho68 hb hg_ hnew_
            have HS0_ := (hb.cell (World.block_lt_of_cell? _ _ (hHeld.1))).trans (hHeld.1)
            have HS1_ := (hb.cell (World.block_lt_of_cell? _ _ (hHeld.2.1))).trans (hHeld.2.1)
            have HS2_ := (hb.cell (World.block_lt_of_cell? _ _ (hHeld.2.2.1))).trans (hHeld.2.2.1)
            have HS3_ := (hb.cell (World.block_lt_of_cell? _ _ (hHeld.2.2.2.1))).trans (hHeld.2.2.2.1)
            have HS4_ := (hb.cell (World.block_lt_of_cell? _ _ (hHeld.2.2.2.2.1))).trans (hHeld.2.2.2.2.1)
            have HS5_ := (hb.cell (World.block_lt_of_cell? _ _ (hHeld.2.2.2.2.2.1))).trans (hHeld.2.2.2.2.2.1)
            have HS6_ := (hb.cell (World.block_lt_of_cell? _ _ (hHeld.2.2.2.2.2.2.1))).trans (hHeld.2.2.2.2.2.2.1)
            have HS7_ := (hb.cell (World.block_lt_of_cell? _ _ (hHeld.2.2.2.2.2.2.2))).trans (hHeld.2.2.2.2.2.2.2)
            clear hg_ hnew_
            (first | rw [← Ny318.out] at ho68 | (simp only [Int.reduceToNat] at ho68; rw [← Ny318.out] at ho68))
            have n0_ := Aside0.mk (Kd.R_elder' (by (with_reducible repeat (first | apply Kd.R_alloc | apply Kd.R_drewN | apply Kd.R_drew)); exact HO254.out) (Kd.R_base ho68) hb)
            have n1_ := Aside0.mk (Kd.V_elder' (by (with_reducible repeat (first | apply Kd.V_alloc | apply Kd.V_drewN | apply Kd.V_drew)); exact HO262.out) (Kd.R_base ho68) hb)
            have n2_ := Aside0.mk (Kd.R_elder' (by (with_reducible repeat (first | apply Kd.R_alloc | apply Kd.R_drewN | apply Kd.R_drew)); exact HO257.out) (Kd.R_base ho68) hb)
            have n3_ := Aside0.mk (Kd.R_elder' (by (with_reducible repeat (first | apply Kd.R_alloc | apply Kd.R_drewN | apply Kd.R_drew)); exact HO266.out) (Kd.R_base ho68) hb)
            have n4_ := Aside0.mk (Kd.V_elder' (by (with_reducible repeat (first | apply Kd.V_alloc | apply Kd.V_drewN | apply Kd.V_drew)); exact HO271.out) (Kd.R_base ho68) hb)
            have n5_ := Aside0.mk (Kd.V_elder' (by (with_reducible repeat (first | apply Kd.V_alloc | apply Kd.V_drewN | apply Kd.V_drew)); exact HO277.out) (Kd.R_base ho68) hb)
            have n6_ := Aside0.mk (Kd.V_elder' (by (with_reducible repeat (first | apply Kd.V_alloc | apply Kd.V_drewN | apply Kd.V_drew)); exact HO282.out) (Kd.R_base ho68) hb)
            have n7_ := Aside0.mk (Kd.N_elder' (by (with_reducible repeat (first | apply Kd.N_alloc | apply Kd.N_drewN | apply Kd.N_drew)); exact HO285.out) (Kd.R_base ho68) hb)
            have n8_ := Aside0.mk (Kd.R_elder' (by (with_reducible repeat (first | apply Kd.R_alloc | apply Kd.R_drewN | apply Kd.R_drew)); exact HO288.out) (Kd.R_base ho68) hb)
            have n9_ := Aside0.mk (Kd.R_elder' (by (with_reducible repeat (first | apply Kd.R_alloc | apply Kd.R_drewN | apply Kd.R_drew)); exact HO292.out) (Kd.R_base ho68) hb)
            have n10_ := Aside0.mk (Kd.R_elder' (by (with_reducible repeat (first | apply Kd.R_alloc | apply Kd.R_drewN | apply Kd.R_drew)); exact HO297.out) (Kd.R_base ho68) hb)
            have n11_ := Aside0.mk (Kd.R_below (by (with_reducible repeat (first | apply Kd.R_alloc | apply Kd.R_drewN | apply Kd.R_drew)); exact HO301.out) hb)
            have n12_ := Aside0.mk (Kd.R_elder' (by (with_reducible repeat (first | apply Kd.R_alloc | apply Kd.R_drewN | apply Kd.R_drew)); exact HO304.out) (Kd.R_base ho68) hb)
            have n13_ := Aside0.mk (Kd.R_elder' (by (with_reducible repeat (first | apply Kd.R_alloc | apply Kd.R_drewN | apply Kd.R_drew)); exact HO308.out) (Kd.R_base ho68) hb)
            have n14_ := Aside0.mk (Kd.V_elder' (by (with_reducible repeat (first | apply Kd.V_alloc | apply Kd.V_drewN | apply Kd.V_drew)); exact HO313.out) (Kd.R_base ho68) hb)
            have n15_ := Aside0.mk (Kd.R_lower (Kd.R_new' (Kd.R_new' (Kd.R_new' (Kd.R_new' (Kd.R_new' (Kd.R_new' (Kd.R_new' (Kd.R_new' ho68 (Kd.R_lt (by (with_reducible repeat (first | apply Kd.R_alloc | apply Kd.R_drewN | apply Kd.R_drew)); exact HO254.out))) (Kd.R_lt (by (with_reducible repeat (first | apply Kd.R_alloc | apply Kd.R_drewN | apply Kd.R_drew)); exact HO257.out))) (Kd.R_lt (by (with_reducible repeat (first | apply Kd.R_alloc | apply Kd.R_drewN | apply Kd.R_drew)); exact HO266.out))) (Kd.R_lt (by (with_reducible repeat (first | apply Kd.R_alloc | apply Kd.R_drewN | apply Kd.R_drew)); exact HO288.out))) (Kd.R_lt (by (with_reducible repeat (first | apply Kd.R_alloc | apply Kd.R_drewN | apply Kd.R_drew)); exact HO292.out))) (Kd.R_lt (by (with_reducible repeat (first | apply Kd.R_alloc | apply Kd.R_drewN | apply Kd.R_drew)); exact HO297.out))) (Kd.R_lt (by (with_reducible repeat (first | apply Kd.R_alloc | apply Kd.R_drewN | apply Kd.R_drew)); exact HO304.out))) (Kd.R_lt (by (with_reducible repeat (first | apply Kd.R_alloc | apply Kd.R_drewN | apply Kd.R_drew)); exact HO308.out))) (below_size (by repeat (first | (with_reducible first | exact HB.out | apply below_alloc | apply pw_below_drewN | apply below_drew1) | exact HB.out))))
            have n16_ := Aside0.mk (below_step (by repeat (first | (with_reducible first | exact HB.out | apply below_alloc | apply pw_below_drewN | apply below_drew1) | exact HB.out)) hb)
            clear HO254
            clear HO262
            clear HO257
            clear HO266
            clear HO271
            clear HO277
            clear HO282
            clear HO285
            clear HO288
            clear HO292
            clear HO297
            clear HO301
            clear HO304
            clear HO308
            clear HO313
            clear HB
            have HO254 := n0_
            have HO262 := n1_
            have HO257 := n2_
            have HO266 := n3_
            have HO271 := n4_
            have HO277 := n5_
            have HO282 := n6_
            have HO285 := n7_
            have HO288 := n8_
            have HO292 := n9_
            have HO297 := n10_
            have HO301 := n11_
            have HO304 := n12_
            have HO308 := n13_
            have HO313 := n14_
            have HO320 := n15_
            have HB := n16_
            clear n0_ n1_ n2_ n3_ n4_ n5_ n6_ n7_ n8_ n9_ n10_ n11_ n12_ n13_ n14_ n15_ n16_
            clear hb ho68
            obtain ⟨Ao69, co69, eo69⟩ := Kd.R_slice HO320.out
            (first | subst eo69 | (injection eo69 with f1_ f2_ f3_; have f4_ := f1_.symm; have f5_ := f3_.symm; clear f1_ f2_ f3_; subst f4_; subst f5_))
            refine hK.out _ _ ⟨HS0_, HS1_, HS2_, HS3_, HS4_, HS5_, HS6_, HS7_⟩ (fun hHeld => ?_)
            clear hK K
            refine norm_ (a' := ?_) ?_ ?_
            rotate_left
            ·show Act.put _ (some 69) _ = _
             simp only [Act.put, List.setIfInBounds_toArray, List.set_cons_zero, List.set_cons_succ, i64_w, i32_w]
             rfl
            refine one_ (i := 16) (N := some 70) #[tt, tt, tt, tt, tt, tt, tt, tt, tt, tt, tt, tt, tt, tt, tt, tt, tt, ff, ff, ff] rfl rfl (one_of HT_.out (by kernel_rfl)) (by decide) (fun K hK => ?_)
            refine goes_ Try.func19 (by kernel_rfl) rfl #[.slice Ao69 y318.length co69] (by rfl) rfl rfl (by (try simp only [List.map_toArray, List.map_cons, List.map_nil]); first | done | rfl | (simp only [List.length_drop, List.length_take]; rfl)) ?_
            with_reducible refine (merge_Sorted.calls k _ _ y318 t321 _ ?side1 ?side2 A30.out).mono ?_
            (case side1 => repeat (first | exact (Kd.R_reads' HO320.out).2.2 | (with_reducible refine Kd.C_alloc ?_ _) | (with_reducible refine Kd.C_drewN ?_ _) | (with_reducible refine Kd.C_drew ?_)))
            (case side2 => exact (Kd.R_reads' HO320.out).2.1)
            rintro e w70 ⟨rfl, hb⟩
            have HS0_ := (hb.cell (World.block_lt_of_cell? _ _ (hHeld.1))).trans (hHeld.1)
            have HS1_ := (hb.cell (World.block_lt_of_cell? _ _ (hHeld.2.1))).trans (hHeld.2.1)
            have HS2_ := (hb.cell (World.block_lt_of_cell? _ _ (hHeld.2.2.1))).trans (hHeld.2.2.1)
            have HS3_ := (hb.cell (World.block_lt_of_cell? _ _ (hHeld.2.2.2.1))).trans (hHeld.2.2.2.1)
            have HS4_ := (hb.cell (World.block_lt_of_cell? _ _ (hHeld.2.2.2.2.1))).trans (hHeld.2.2.2.2.1)
            have HS5_ := (hb.cell (World.block_lt_of_cell? _ _ (hHeld.2.2.2.2.2.1))).trans (hHeld.2.2.2.2.2.1)
            have HS6_ := (hb.cell (World.block_lt_of_cell? _ _ (hHeld.2.2.2.2.2.2.1))).trans (hHeld.2.2.2.2.2.2.1)
            have HS7_ := (hb.cell (World.block_lt_of_cell? _ _ (hHeld.2.2.2.2.2.2.2))).trans (hHeld.2.2.2.2.2.2.2)
            refine ⟨_, rfl, ?_⟩
            have n0_ := Aside0.mk (Kd.R_below (by (with_reducible repeat (first | apply Kd.R_alloc | apply Kd.R_drewN | apply Kd.R_drew)); exact HO254.out) hb)
            have n1_ := Aside0.mk (Kd.V_below (by (with_reducible repeat (first | apply Kd.V_alloc | apply Kd.V_drewN | apply Kd.V_drew)); exact HO262.out) hb)
            have n2_ := Aside0.mk (Kd.R_below (by (with_reducible repeat (first | apply Kd.R_alloc | apply Kd.R_drewN | apply Kd.R_drew)); exact HO257.out) hb)
            have n3_ := Aside0.mk (Kd.R_below (by (with_reducible repeat (first | apply Kd.R_alloc | apply Kd.R_drewN | apply Kd.R_drew)); exact HO266.out) hb)
            have n4_ := Aside0.mk (Kd.V_below (by (with_reducible repeat (first | apply Kd.V_alloc | apply Kd.V_drewN | apply Kd.V_drew)); exact HO271.out) hb)
            have n5_ := Aside0.mk (Kd.V_below (by (with_reducible repeat (first | apply Kd.V_alloc | apply Kd.V_drewN | apply Kd.V_drew)); exact HO277.out) hb)
            have n6_ := Aside0.mk (Kd.V_below (by (with_reducible repeat (first | apply Kd.V_alloc | apply Kd.V_drewN | apply Kd.V_drew)); exact HO282.out) hb)
            have n7_ := Aside0.mk (Kd.N_below (by (with_reducible repeat (first | apply Kd.N_alloc | apply Kd.N_drewN | apply Kd.N_drew)); exact HO285.out) hb)
            have n8_ := Aside0.mk (Kd.R_below (by (with_reducible repeat (first | apply Kd.R_alloc | apply Kd.R_drewN | apply Kd.R_drew)); exact HO288.out) hb)
            have n9_ := Aside0.mk (Kd.R_below (by (with_reducible repeat (first | apply Kd.R_alloc | apply Kd.R_drewN | apply Kd.R_drew)); exact HO292.out) hb)
            have n10_ := Aside0.mk (Kd.R_below (by (with_reducible repeat (first | apply Kd.R_alloc | apply Kd.R_drewN | apply Kd.R_drew)); exact HO297.out) hb)
            have n11_ := Aside0.mk (Kd.R_below (by (with_reducible repeat (first | apply Kd.R_alloc | apply Kd.R_drewN | apply Kd.R_drew)); exact HO301.out) hb)
            have n12_ := Aside0.mk (Kd.R_below (by (with_reducible repeat (first | apply Kd.R_alloc | apply Kd.R_drewN | apply Kd.R_drew)); exact HO304.out) hb)
            have n13_ := Aside0.mk (Kd.R_below (by (with_reducible repeat (first | apply Kd.R_alloc | apply Kd.R_drewN | apply Kd.R_drew)); exact HO308.out) hb)
            have n14_ := Aside0.mk (Kd.V_below (by (with_reducible repeat (first | apply Kd.V_alloc | apply Kd.V_drewN | apply Kd.V_drew)); exact HO313.out) hb)
            have n15_ := Aside0.mk (Kd.R_below (by (with_reducible repeat (first | apply Kd.R_alloc | apply Kd.R_drewN | apply Kd.R_drew)); exact HO320.out) hb)
            have n16_ := Aside0.mk (below_step (by repeat (first | (with_reducible first | exact HB.out | apply below_alloc | apply pw_below_drewN | apply below_drew1) | exact HB.out)) hb)
            clear HO254
            clear HO262
            clear HO257
            clear HO266
            clear HO271
            clear HO277
            clear HO282
            clear HO285
            clear HO288
            clear HO292
            clear HO297
            clear HO301
            clear HO304
            clear HO308
            clear HO313
            clear HO320
            clear HB
            have HO254 := n0_
            have HO262 := n1_
            have HO257 := n2_
            have HO266 := n3_
            have HO271 := n4_
            have HO277 := n5_
            have HO282 := n6_
            have HO285 := n7_
            have HO288 := n8_
            have HO292 := n9_
            have HO297 := n10_
            have HO301 := n11_
            have HO304 := n12_
            have HO308 := n13_
            have HO313 := n14_
            have HO320 := n15_
            have HB := n16_
            clear n0_ n1_ n2_ n3_ n4_ n5_ n6_ n7_ n8_ n9_ n10_ n11_ n12_ n13_ n14_ n15_ n16_
            (try clear hb)
            (try clear hb2)
            (try clear hk)
            (try clear hi)
            refine hK.out _ _ ⟨HS0_, HS1_, HS2_, HS3_, HS4_, HS5_, HS6_, HS7_⟩ (fun hHeld => ?_)
            clear hK K
            refine norm_ (a' := ?_) ?_ ?_
            rotate_left
            ·show Act.put _ (some 70) _ = _
             simp only [Act.put, List.setIfInBounds_toArray, List.set_cons_zero, List.set_cons_succ, i64_w, i32_w]
             rfl
            refine pq_ (i := 17) (N := some 71) HT_ #[tt, tt, tt, tt, tt, tt, tt, tt, tt, tt, tt, tt, tt, tt, tt, tt, tt, tt, ff, ff] ?_
            refine pq_ (i := 18) (N := some 72) HT_ #[tt, tt, tt, tt, tt, tt, tt, tt, tt, tt, tt, tt, tt, tt, tt, tt, tt, tt, tt, ff] ?_
            refine pq_ (i := 19) (N := some 0) HT_ #[tt, tt, tt, tt, tt, tt, tt, tt, tt, tt, tt, tt, tt, tt, tt, tt, tt, tt, tt, tt] ?_
            refine done_ (done_of HT_.out (by kernel_rfl)) ?_
            try go_wp2
            go_ret
            exact ⟨by first | rfl | (simp [errW_none, errW_some] <;> rfl) | (simp [*, errW_none, errW_some] <;> rfl), by repeat (first | (with_reducible first | exact HB.out | apply below_alloc | apply pw_below_drewN | apply below_drew1) | exact HB.out)⟩
           ·replace c29 := Bool.eq_false_iff.mpr c29
            subst c29
            have H1 : (none) = some r := by rw [if_neg (show ¬ (false = true) by decide)] at H; exact H
            clear H
            have H := H1
            clear H1
            exact absurd H (by simp)
          ·replace c27 := Bool.eq_false_iff.mpr c27
           subst c27
           have H1 : (none) = some r := by rw [if_neg (show ¬ (false = true) by decide)] at H; exact H
           clear H
           have H := H1
           clear H1
           exact absurd H (by simp)
         ·replace c26 := Bool.eq_false_iff.mpr c26
          subst c26
          have H1 : (none) = some r := by rw [if_neg (show ¬ (false = true) by decide)] at H; exact H
          clear H
          have H := H1
          clear H1
          exact absurd H (by simp)
        ·replace c22 := Bool.eq_false_iff.mpr c22
         subst c22
         have H1 : (none) = some r := by rw [if_neg (show ¬ (false = true) by decide)] at H; exact H
         clear H
         have H := H1
         clear H1
         exact absurd H (by simp)
       ·replace c19 := Bool.eq_false_iff.mpr c19
        subst c19
        have H1 : (none) = some r := by rw [if_neg (show ¬ (false = true) by decide)] at H; exact H
        clear H
        have H := H1
        clear H1
        exact absurd H (by simp)
      ·rw [if_neg c17] at H
       exact absurd H (by simp)
     ·rw [if_neg c16] at H
      exact absurd H (by simp)
    ·replace c10 := Bool.eq_false_iff.mpr c10
     subst c10
     have H1 : (none) = some r := by rw [if_neg (show ¬ (false = true) by decide)] at H; exact H
     clear H
     have H := H1
     clear H1
     exact absurd H (by simp)
   ·rw [if_neg c8] at H
    exact absurd H (by simp)
  ·replace c6 := Bool.eq_false_iff.mpr c6
   subst c6
   have H1 : (none) = some r := by rw [if_neg (show ¬ (false = true) by decide)] at H; exact H
   clear H
   have H := H1
   clear H1
   exact absurd H (by simp)
 ·rw [if_neg c4] at H
  exact absurd H (by simp)

end Go.Proofs.Ythdoanbadhfhjaa.PAll

-- mended

-- searched
