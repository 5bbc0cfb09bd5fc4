-- Laid by ownprint.py (a program of the session, in wip/tools), out of the translation: Lean checks it.
import Derived.Test.YthdoanbadhfhjaaPAllx0
import Derived.Test.YthdoanbadhfhjaaPAllx4
import Derived.Test.YthdoanbadhfhjaaPAllx6
import Derived.Test.YthdoanbadhfhjaaPAllx7
import Derived.Test.YthdoanbadhfhjaaPAllx8
import Derived.Test.YthdoanbadhfhjaaPAllx9
import Derived.Test.YthdoanbadhfhjaaPAllx12
import Derived.Test.YthdoanbadhfhjaaPAllx15
import Derived.Test.YthdoanbadhfhjaaGv
import Derived.Test.YthdoanbadhfhjaaGw
namespace Go.Proofs.Ythdoanbadhfhjaa.PAll
open Go.RowKit Go.Proofs.YthdoanbadhfhjaaW.PrintWords Go.Proofs.YthdoanbadhfhjaaW.PrintLast Go.Proofs.YthdoanbadhfhjaaW.PrintMore
attribute [local go_sem] max2_int min2_int max_two min_two max_three min_three max_four min_four   -- for this text's walks alone
set_option linter.unusedVariables false
set_option linter.unusedSimpArgs false

/-! ### moultlaw12_MergeThins: function 5 -/
mutual
def moultlaw12_MergeThins.j0 : Nat → List Int → Bool → Bool → List (List (S36)) → Bool → Option (Bool)
 | 0, _, _, _, _, _ => none
 | k + 1, x1, x2, x7, x8, x30 => if x30 = true then (some x7) else (if 0 < (x8.length : Int) then ((merge_Thin.f k (rd_L4 x8 0) x1 x2).bind fun t493 => ((merge_Visible.f k t493 1125899906842624).bind fun t496 => ((merge_Visible.f k (rd_L4 x8 0) 1125899906842624).bind fun t500 => ((moultlaw12_same.f k t496 t500).bind fun t503 => (if t503 = true then (if (t493.length : Int) > ((rd_L4 x8 0).length : Int) then (moultlaw12_MergeThins.j1 k x1 x2 x8 t493 true) else ((merge_Sorted.f k t493).bind fun t505 => (moultlaw12_MergeThins.j1 k x1 x2 x8 t493 (!t505)))) else (moultlaw12_MergeThins.j1 k x1 x2 x8 t493 true)))))) else (none))
def moultlaw12_MergeThins.j1 : Nat → List Int → Bool → List (List (S36)) → List (S36) → Bool → Option (Bool)
 | 0, _, _, _, _, _ => none
 | k + 1, x1, x2, x8, x10, x59 => if x59 = true then (some false) else (moultlaw12_MergeThins.l0 k x1 x2 x8 x10 0)
def moultlaw12_MergeThins.l0 : Nat → List Int → Bool → List (List (S36)) → List (S36) → Int → Option (Bool)
 | 0, _, _, _, _, _ => none
 | k + 1, x1, x2, x8, x10, x11 => if x11 < (x10.length : Int) then (if 0 ≤ x11 then ((moultlaw12_has.f k x8 ((rd_T36 x10 x11).f0) ((rd_T36 x10 x11).f1) ((rd_T36 x10 x11).f2) ((rd_T36 x10 x11).f3)).bind fun t507 => (if t507 = true then (moultlaw12_MergeThins.l0 k x1 x2 x8 x10 (wrap64 (x11 + 1))) else (some false))) else (none)) else (moultlaw12_MergeThins.l1 k x1 x2 x8 x10 0)
def moultlaw12_MergeThins.l1 : Nat → List Int → Bool → List (List (S36)) → List (S36) → Int → Option (Bool)
 | 0, _, _, _, _, _ => none
 | k + 1, x1, x2, x8, x10, x12 => if x12 < (x1.length : Int) then (if 0 ≤ x12 then ((merge_Visible.f k x10 (rd x1 x12)).bind fun t516 => (if 0 < (x8.length : Int) then ((merge_Visible.f k (rd_L4 x8 0) (rd x1 x12)).bind fun t521 => ((moultlaw12_same.f k t516 t521).bind fun t524 => (if t524 = true then (moultlaw12_MergeThins.l1 k x1 x2 x8 x10 (wrap64 (x12 + 1))) else (some false)))) else (none))) else (none)) else ((merge_Thin.f k x10 x1 x2).bind fun t508 => ((moultlaw12_same.f k t508 x10).bind fun t511 => (if t511 = true then ((merge_Thin.f k ([] : List (S36)) x1 x2).bind fun t512 => (some ((t512.length : Int) == 0))) else (some false))))
end
def moultlaw12_MergeThins.f (k : Nat) (l0 : List (S36)) (l1 : List Int) (a2 : Bool) : Option (Bool) := (moultlaw12_shown.f k).bind fun t484 => ((moultlaw12_rows.f k (([l0] : List (List (S36))))).bind fun bt488 => (if t484 = true then (if bt488.2 = true then (moultlaw12_MergeThins.j0 k l1 a2 t484 bt488.1 (decide ((l1.length : Int) > 20))) else (moultlaw12_MergeThins.j0 k l1 a2 t484 bt488.1 true)) else (moultlaw12_MergeThins.j0 k l1 a2 t484 bt488.1 true)))
theorem moultlaw12_MergeThins.mono_l : ∀ k, (∀ y0 y1 y2 y3 y4, LeO (moultlaw12_MergeThins.j0 k y0 y1 y2 y3 y4) (moultlaw12_MergeThins.j0 (k + 1) y0 y1 y2 y3 y4)) ∧ (∀ y0 y1 y2 y3 y4, LeO (moultlaw12_MergeThins.j1 k y0 y1 y2 y3 y4) (moultlaw12_MergeThins.j1 (k + 1) y0 y1 y2 y3 y4)) ∧ (∀ y0 y1 y2 y3 y4, LeO (moultlaw12_MergeThins.l0 k y0 y1 y2 y3 y4) (moultlaw12_MergeThins.l0 (k + 1) y0 y1 y2 y3 y4)) ∧ (∀ y0 y1 y2 y3 y4, LeO (moultlaw12_MergeThins.l1 k y0 y1 y2 y3 y4) (moultlaw12_MergeThins.l1 (k + 1) y0 y1 y2 y3 y4))
 | 0 => ⟨fun _ _ _ _ _ r h => by simp [moultlaw12_MergeThins.j0] at h, fun _ _ _ _ _ r h => by simp [moultlaw12_MergeThins.j1] at h, fun _ _ _ _ _ r h => by simp [moultlaw12_MergeThins.l0] at h, fun _ _ _ _ _ r h => by simp [moultlaw12_MergeThins.l1] at h⟩
 | k + 1 => by
  obtain ⟨ih0, ih1, ih2, ih3⟩ := moultlaw12_MergeThins.mono_l k
  refine ⟨?_, ?_, ?_, ?_⟩
  ·intro y0 y1 y2 y3 y4
   unfold moultlaw12_MergeThins.j0
   repeat' first
   | (with_reducible exact ih0 _ _ _ _ _)
   | (with_reducible exact ih1 _ _ _ _ _)
   | (with_reducible exact ih2 _ _ _ _ _)
   | (with_reducible exact ih3 _ _ _ _ _)
   | (with_reducible exact merge_Sorted.mono _ _)
   | (with_reducible exact merge_Thin.mono _ _ _ _)
   | (with_reducible exact merge_Visible.mono _ _ _)
   | (with_reducible exact moultlaw12_has.mono _ _ _ _ _ _)
   | (with_reducible exact moultlaw12_rows.mono _ _)
   | (with_reducible exact moultlaw12_same.mono _ _ _)
   | (with_reducible exact moultlaw12_shown.mono _)
   | (with_reducible exact LeO.refl _)
   | (with_reducible exact LeO.none _)
   | (with_reducible refine LeO.ite ?_ ?_)
   | (with_reducible refine LeO.bind ?_ (fun _ => ?_))
   | exact ih0 _ _ _ _ _
   | exact ih1 _ _ _ _ _
   | exact ih2 _ _ _ _ _
   | exact ih3 _ _ _ _ _
   | exact merge_Sorted.mono _ _
   | exact merge_Thin.mono _ _ _ _
   | exact merge_Visible.mono _ _ _
   | exact moultlaw12_has.mono _ _ _ _ _ _
   | exact moultlaw12_rows.mono _ _
   | exact moultlaw12_same.mono _ _ _
   | exact moultlaw12_shown.mono _
   | exact LeO.none _
   | refine LeO.ite ?_ ?_
   | refine LeO.bind ?_ (fun _ => ?_)
  ·intro y0 y1 y2 y3 y4
   unfold moultlaw12_MergeThins.j1
   repeat' first
   | (with_reducible exact ih0 _ _ _ _ _)
   | (with_reducible exact ih1 _ _ _ _ _)
   | (with_reducible exact ih2 _ _ _ _ _)
   | (with_reducible exact ih3 _ _ _ _ _)
   | (with_reducible exact merge_Sorted.mono _ _)
   | (with_reducible exact merge_Thin.mono _ _ _ _)
   | (with_reducible exact merge_Visible.mono _ _ _)
   | (with_reducible exact moultlaw12_has.mono _ _ _ _ _ _)
   | (with_reducible exact moultlaw12_rows.mono _ _)
   | (with_reducible exact moultlaw12_same.mono _ _ _)
   | (with_reducible exact moultlaw12_shown.mono _)
   | (with_reducible exact LeO.refl _)
   | (with_reducible exact LeO.none _)
   | (with_reducible refine LeO.ite ?_ ?_)
   | (with_reducible refine LeO.bind ?_ (fun _ => ?_))
   | exact ih0 _ _ _ _ _
   | exact ih1 _ _ _ _ _
   | exact ih2 _ _ _ _ _
   | exact ih3 _ _ _ _ _
   | exact merge_Sorted.mono _ _
   | exact merge_Thin.mono _ _ _ _
   | exact merge_Visible.mono _ _ _
   | exact moultlaw12_has.mono _ _ _ _ _ _
   | exact moultlaw12_rows.mono _ _
   | exact moultlaw12_same.mono _ _ _
   | exact moultlaw12_shown.mono _
   | exact LeO.none _
   | refine LeO.ite ?_ ?_
   | refine LeO.bind ?_ (fun _ => ?_)
  ·intro y0 y1 y2 y3 y4
   unfold moultlaw12_MergeThins.l0
   repeat' first
   | (with_reducible exact ih0 _ _ _ _ _)
   | (with_reducible exact ih1 _ _ _ _ _)
   | (with_reducible exact ih2 _ _ _ _ _)
   | (with_reducible exact ih3 _ _ _ _ _)
   | (with_reducible exact merge_Sorted.mono _ _)
   | (with_reducible exact merge_Thin.mono _ _ _ _)
   | (with_reducible exact merge_Visible.mono _ _ _)
   | (with_reducible exact moultlaw12_has.mono _ _ _ _ _ _)
   | (with_reducible exact moultlaw12_rows.mono _ _)
   | (with_reducible exact moultlaw12_same.mono _ _ _)
   | (with_reducible exact moultlaw12_shown.mono _)
   | (with_reducible exact LeO.refl _)
   | (with_reducible exact LeO.none _)
   | (with_reducible refine LeO.ite ?_ ?_)
   | (with_reducible refine LeO.bind ?_ (fun _ => ?_))
   | exact ih0 _ _ _ _ _
   | exact ih1 _ _ _ _ _
   | exact ih2 _ _ _ _ _
   | exact ih3 _ _ _ _ _
   | exact merge_Sorted.mono _ _
   | exact merge_Thin.mono _ _ _ _
   | exact merge_Visible.mono _ _ _
   | exact moultlaw12_has.mono _ _ _ _ _ _
   | exact moultlaw12_rows.mono _ _
   | exact moultlaw12_same.mono _ _ _
   | exact moultlaw12_shown.mono _
   | exact LeO.none _
   | refine LeO.ite ?_ ?_
   | refine LeO.bind ?_ (fun _ => ?_)
  ·intro y0 y1 y2 y3 y4
   unfold moultlaw12_MergeThins.l1
   repeat' first
   | (with_reducible exact ih0 _ _ _ _ _)
   | (with_reducible exact ih1 _ _ _ _ _)
   | (with_reducible exact ih2 _ _ _ _ _)
   | (with_reducible exact ih3 _ _ _ _ _)
   | (with_reducible exact merge_Sorted.mono _ _)
   | (with_reducible exact merge_Thin.mono _ _ _ _)
   | (with_reducible exact merge_Visible.mono _ _ _)
   | (with_reducible exact moultlaw12_has.mono _ _ _ _ _ _)
   | (with_reducible exact moultlaw12_rows.mono _ _)
   | (with_reducible exact moultlaw12_same.mono _ _ _)
   | (with_reducible exact moultlaw12_shown.mono _)
   | (with_reducible exact LeO.refl _)
   | (with_reducible exact LeO.none _)
   | (with_reducible refine LeO.ite ?_ ?_)
   | (with_reducible refine LeO.bind ?_ (fun _ => ?_))
   | exact ih0 _ _ _ _ _
   | exact ih1 _ _ _ _ _
   | exact ih2 _ _ _ _ _
   | exact ih3 _ _ _ _ _
   | exact merge_Sorted.mono _ _
   | exact merge_Thin.mono _ _ _ _
   | exact merge_Visible.mono _ _ _
   | exact moultlaw12_has.mono _ _ _ _ _ _
   | exact moultlaw12_rows.mono _ _
   | exact moultlaw12_same.mono _ _ _
   | exact moultlaw12_shown.mono _
   | exact LeO.none _
   | refine LeO.ite ?_ ?_
   | refine LeO.bind ?_ (fun _ => ?_)
theorem moultlaw12_MergeThins.mono : ∀ a0 a1 a2 k, LeO (moultlaw12_MergeThins.f k a0 a1 a2) (moultlaw12_MergeThins.f (k + 1) a0 a1 a2) := by
 intro a0 a1 a2 k
 obtain ⟨ih0, ih1, ih2, ih3⟩ := moultlaw12_MergeThins.mono_l k
 unfold moultlaw12_MergeThins.f
 repeat' first
   | (with_reducible exact ih0 _ _ _ _ _)
   | (with_reducible exact ih1 _ _ _ _ _)
   | (with_reducible exact ih2 _ _ _ _ _)
   | (with_reducible exact ih3 _ _ _ _ _)
   | (with_reducible exact merge_Sorted.mono _ _)
   | (with_reducible exact merge_Thin.mono _ _ _ _)
   | (with_reducible exact merge_Visible.mono _ _ _)
   | (with_reducible exact moultlaw12_has.mono _ _ _ _ _ _)
   | (with_reducible exact moultlaw12_rows.mono _ _)
   | (with_reducible exact moultlaw12_same.mono _ _ _)
   | (with_reducible exact moultlaw12_shown.mono _)
   | (with_reducible exact LeO.refl _)
   | (with_reducible exact LeO.none _)
   | (with_reducible refine LeO.ite ?_ ?_)
   | (with_reducible refine LeO.bind ?_ (fun _ => ?_))
   | exact ih0 _ _ _ _ _
   | exact ih1 _ _ _ _ _
   | exact ih2 _ _ _ _ _
   | exact ih3 _ _ _ _ _
   | exact merge_Sorted.mono _ _
   | exact merge_Thin.mono _ _ _ _
   | exact merge_Visible.mono _ _ _
   | exact moultlaw12_has.mono _ _ _ _ _ _
   | exact moultlaw12_rows.mono _ _
   | exact moultlaw12_same.mono _ _ _
   | exact moultlaw12_shown.mono _
   | exact LeO.none _
   | refine LeO.ite ?_ ?_
   | refine LeO.bind ?_ (fun _ => ?_)
def moultlaw12_MergeThins.T6 : Bool × List (List Nat × List Nat) := (true, [([], []), ([0], [0]), ([], []), ([2], [2]), ([3], [3]), ([4, 1], [4]), ([1, 5, 5], [1, 5]), ([6], [6]), ([7, 6], [7]), ([8], [8]), ([9, 8], [8, 9]), ([8], [8]), ([11, 8], [8, 11]), ([12, 8], [8, 12]), ([13, 8], [8, 13]), ([10, 14, 8], [8, 10, 14]), ([8, 15], [8, 15]), ([16, 8], [16]), ([17], [17]), ([18, 17, 17], [17, 18]), ([19, 17], [17, 19]), ([17, 20], [17, 20])])
def moultlaw12_MergeThins.B6 : List Nat := [0, 1, 0, 4, 12, 31, 63, 127, 255, 511, 1023, 511, 2559, 6655, 14847, 32767, 65535, 131071, 262143, 524287, 1048575, 2097151]
theorem moultlaw12_MergeThins.tab6 : rtab .any (opsOf Try.f5 6) = moultlaw12_MergeThins.T6 := by kernel_rfl
theorem moultlaw12_MergeThins.bits6 : waitsOk moultlaw12_MergeThins.T6.2 moultlaw12_MergeThins.B6 = true := by kernel_rfl
def moultlaw12_MergeThins.T16 : Bool × List (List Nat × List Nat) := (true, [([], []), ([], []), ([], []), ([1, 2], [1, 2]), ([3], [3]), ([0, 4], [0, 4]), ([], []), ([6], [6]), ([7], [7]), ([], []), ([], []), ([9, 10], [9, 10]), ([11], [11]), ([8, 12, 5], [8, 12]), ([5, 13, 13], [5, 13]), ([14], [14])])
def moultlaw12_MergeThins.B16 : List Nat := [0, 0, 0, 6, 14, 31, 0, 64, 192, 0, 0, 1536, 3584, 8191, 16383, 32767]
theorem moultlaw12_MergeThins.tab16 : rtab .any (opsOf Try.f5 16) = moultlaw12_MergeThins.T16 := by kernel_rfl
theorem moultlaw12_MergeThins.bits16 : waitsOk moultlaw12_MergeThins.T16.2 moultlaw12_MergeThins.B16 = true := by kernel_rfl
set_option maxHeartbeats 8000000 in
set_option maxRecDepth 100000 in
theorem moultlaw12_MergeThins.calls (k : Nat) (P0_ : Nat → Prop) (A0 : Option Addr) (c0 : Nat) (l0 : List (S36)) (A1 : Option Addr) (c1 : Nat) (l1 : List Int) (a2 : Bool) (r : Bool) (w : World) (hs0 : Kd.V k36 36 w w.heap.size (fun k_ => P0_ k_) (.slice A0 l0.length c0) l0) (hr1 : Kd.C (Kd.int .i64) w A1 l1.length l1) (hc1 : l1.length ≤ c1) (h : moultlaw12_MergeThins.f k l0 l1 a2 = some r) :
  Calls Try.prog 5 #[.slice A0 l0.length c0, .slice A1 l1.length c1, .bool a2] w fun e w' => e = .returned (.bool r) ∧ Below w.heap.size w w' := by
 have hu36 := Try.underlying36
 have HO0 := Aside0.mk (show Kd.V k36 36 w w.heap.size (fun k_ => (P0_ k_ ∨ w.heap.size ≤ k_)) (.slice A0 l0.length c0) l0 from Kd.V_mono hs0 (fun k_ hk => .inl hk))
 have HR1 := Aside0.mk hr1
 have HC1 := Aside0.mk hc1
 clear hr1 hc1
 have HB := Aside0.mk (Below.refl w.heap.size w)
 have H : ((moultlaw12_shown.f k).bind fun t484 => ((moultlaw12_rows.f k (([l0] : List (List (S36))))).bind fun bt488 => (if t484 = true then (if bt488.2 = true then (moultlaw12_MergeThins.j0 k l1 a2 t484 bt488.1 (decide ((l1.length : Int) > 20))) else (moultlaw12_MergeThins.j0 k l1 a2 t484 bt488.1 true)) else (moultlaw12_MergeThins.j0 k l1 a2 t484 bt488.1 true)))) = some r := h
 clear h
 replace H := Option.bind_eq_some_iff.mp H
 obtain ⟨t484, A40, H⟩ := H
 replace H : ((moultlaw12_rows.f k (([l0] : List (List (S36))))).bind fun bt488 => (if t484 = true then (if bt488.2 = true then (moultlaw12_MergeThins.j0 k l1 a2 t484 bt488.1 (decide ((l1.length : Int) > 20))) else (moultlaw12_MergeThins.j0 k l1 a2 t484 bt488.1 true)) else (moultlaw12_MergeThins.j0 k l1 a2 t484 bt488.1 true))) = some r := H
 have A4 := Aside0.mk A40
 clear A40
 obtain ⟨y485, hy485⟩ : ∃ y_ : List (List (S36)), y_ = (([l0] : List (List (S36)))) := ⟨_, rfl⟩
 replace H : ((moultlaw12_rows.f k y485).bind fun bt488 => (if t484 = true then (if bt488.2 = true then (moultlaw12_MergeThins.j0 k l1 a2 t484 bt488.1 (decide ((l1.length : Int) > 20))) else (moultlaw12_MergeThins.j0 k l1 a2 t484 bt488.1 true)) else (moultlaw12_MergeThins.j0 k l1 a2 t484 bt488.1 true))) = some r := by first | (rw [hy485]; with_reducible exact H) | (have H2_ := (Option.bind_some _ _).symm.trans H; rw [hy485]; with_reducible exact H2_) | (have H2_ := (Option.bind_some _ _).symm.trans H; with_reducible exact H2_) | with_reducible exact H | (rw [hy485]; exact H) | exact H
 have Ny485 := Aside0.mk hy485
 clear hy485
 replace H := Option.bind_eq_some_iff.mp H
 obtain ⟨⟨t488, t491⟩, A50, H⟩ := H
 replace H : (if t484 = true then (if t491 = true then (moultlaw12_MergeThins.j0 k l1 a2 t484 t488 (decide ((l1.length : Int) > 20))) else (moultlaw12_MergeThins.j0 k l1 a2 t484 t488 true)) else (moultlaw12_MergeThins.j0 k l1 a2 t484 t488 true)) = some r := H
 have A5 := Aside0.mk A50
 clear A50
 have HC6 := Aside0.mk H
 clear H
 go_enter Try.func5, Try.ntmps5
 go_upto_region 3 with (first | ((with_reducible refine gate_callee (f := 9) rfl ?_); refine goesL_ (some 13) rfl rfl Try.func9 (by kernel_rfl) rfl #[] rfl (by (try simp only [List.map_toArray, List.map_cons, List.map_nil]); first | done | rfl | (simp only [List.length_drop, List.length_take]; rfl)) ?_; (with_reducible refine (moultlaw12_shown.calls k  t484 _ A4.out).mono ?_); rintro e w7 ⟨rfl, hb⟩; refine ⟨_, rfl, ?_⟩; have n0_ := Aside0.mk (Kd.V_below (by (with_reducible repeat (first | apply Kd.V_alloc | apply Kd.V_drewN | apply Kd.V_drew)); exact HO0.out) hb); have n1_ := Aside0.mk (below_step (by repeat (first | (with_reducible first | exact HB.out | apply below_alloc | apply pw_below_drewN | apply below_drew1) | exact HB.out)) hb); clear HO0; clear HB; have HO0 := n0_; have HB := n1_; clear n0_ n1_; (try clear hb); (try clear hb2); (try clear hk); (try clear hi)) | ((with_reducible refine gate_dst (N := 16) rfl ?_); (try (refine gate_guard (by rfl) ?_; dsimp only)); refine Kd.N_lit (Kd.slice 36 k36) _ 27 ?hg (N' := 16) ?hd (xs := ([l0] : List (List (S36)))) (inner := [.slice A0 l0.length c0]) (ok := (fun k_ => (P0_ k_ ∨ w.heap.size ≤ k_))) (okp := (fun k_ => (P0_ k_ ∨ w.heap.size ≤ k_))) ?hr ?hp (fun _ hk => hk) ((show ∀ k_, w7.heap.size ≤ k_ → (fun k_ => (P0_ k_ ∨ w.heap.size ≤ k_)) k_ from fun k_ hk => (.inr (Nat.le_trans (below_size (by repeat (first | (with_reducible first | exact HB.out | apply below_alloc | apply pw_below_drewN | apply below_drew1) | exact HB.out))) hk))) _ (Nat.le_refl _)) (Below.refl _ _) (Nat.le_refl _) (by simp) ?_; (case hd => rfl); (case hg => rfl); (case hr => first | (go_simp; done) | (go_simp; rfl)); (case hp => first | exact (Reps.one (show Kd.FK (Kd.slice 36 k36) _ _ l0 [.slice A0 l0.length c0] from (Kd.FK_slice_mk (Kd.V_reads' (Kd.V_mono (ok' := (fun k_ => (P0_ k_ ∨ w.heap.size ≤ k_))) (HO0.out) (fun k_ hk => hk))).2.1 (Kd.V_F (Kd.V_mono (ok' := (fun k_ => (P0_ k_ ∨ w.heap.size ≤ k_))) (HO0.out) (fun k_ hk => hk))))) (Reps.none _ _)) | exact (Reps.one (show Kd.FK (Kd.slice 36 k36) _ _ l0 [.slice A0 l0.length c0] from (Kd.FK_slice_mk (Kd.V_reads' (Kd.V_mono (ok' := (fun k_ => (P0_ k_ ∨ w.heap.size ≤ k_))) (HO0.out) (fun k_ hk => hk))).2.1 (Kd.V_F (Kd.V_mono (ok' := (fun k_ => (P0_ k_ ∨ w.heap.size ≤ k_))) (Kd.V_drewN HO0.out _) (fun k_ hk => hk))))) (Reps.none _ _))); intro v486 w8 ho9 hb hg_ hnew_; clear hg_ hnew_; (first | rw [← Ny485.out] at ho9 | (simp only [Int.reduceToNat] at ho9; rw [← Ny485.out] at ho9)); have n0_ := Aside0.mk (Kd.V_elder' (by (with_reducible repeat (first | apply Kd.V_alloc | apply Kd.V_drewN | apply Kd.V_drew)); exact HO0.out) (Kd.N_base ho9) hb); have n1_ := Aside0.mk (Kd.N_lower ho9 (below_size (by repeat (first | (with_reducible first | exact HB.out | apply below_alloc | apply pw_below_drewN | apply below_drew1) | exact HB.out)))); have n2_ := Aside0.mk (below_step (by repeat (first | (with_reducible first | exact HB.out | apply below_alloc | apply pw_below_drewN | apply below_drew1) | exact HB.out)) hb); clear HO0; clear HB; have HO0 := n0_; have HO487 := n1_; have HB := n2_; clear n0_ n1_ n2_; clear hb ho9; obtain ⟨Ao10, co10, eo10⟩ := Kd.N_slice HO487.out; subst eo10) | ((with_reducible refine gate_callee (f := 10) rfl ?_); refine goesL_ (some 17) rfl rfl Try.func10 (by kernel_rfl) rfl #[.slice Ao10 y485.length co10] rfl (by (try simp only [List.map_toArray, List.map_cons, List.map_nil]); first | done | rfl | (simp only [List.length_drop, List.length_take]; rfl)) ?_; (with_reducible refine (moultlaw12_rows.calls k (fun k_ => (P0_ k_ ∨ w.heap.size ≤ k_)) _ _ y485 t488 t491 _ ?side1 A5.out).mono ?_); (case side1 => exact Kd.N_V (HO487.out)); rintro e w11 ⟨v489, rfl, ho0, hb⟩; refine ⟨_, rfl, ?_⟩; have n0_ := Aside0.mk (Kd.V_elder' (by (with_reducible repeat (first | apply Kd.V_alloc | apply Kd.V_drewN | apply Kd.V_drew)); exact HO0.out) (Kd.N_base ho0) hb); have n1_ := Aside0.mk (Kd.N_elder' (by (with_reducible repeat (first | apply Kd.N_alloc | apply Kd.N_drewN | apply Kd.N_drew)); exact HO487.out) (Kd.N_base ho0) hb); have n2_ := Aside0.mk (Kd.N_lower (Kd.N_mono (ok' := fun k_ => (P0_ k_ ∨ w.heap.size ≤ k_)) ho0 (fun k_ hk_ => Or.elim hk_ (fun hs_ => hs_) (fun hn_ => (.inr (Nat.le_trans (below_size (by repeat (first | (with_reducible first | exact HB.out | apply below_alloc | apply pw_below_drewN | apply below_drew1) | exact HB.out))) hn_))))) (below_size (by repeat (first | (with_reducible first | exact HB.out | apply below_alloc | apply pw_below_drewN | apply below_drew1) | exact HB.out)))); have n3_ := Aside0.mk (below_step (by repeat (first | (with_reducible first | exact HB.out | apply below_alloc | apply pw_below_drewN | apply below_drew1) | exact HB.out)) hb); clear HO0; clear HO487; clear HB; have HO0 := n0_; have HO487 := n1_; have HO490 := n2_; have HB := n3_; clear n0_ n1_ n2_ n3_; (try clear hb); (try clear hb2); (try clear hk); (try clear hi); (try clear ho0)))
 (try simp only [Act.put, List.setIfInBounds_toArray, List.set_cons_zero, List.set_cons_succ])
 go_cut [30] (fun v30 wc => ∃ (kq : Nat) (x30_5 : Bool), v30 = .bool x30_5 ∧ Aside0 (moultlaw12_MergeThins.j0 kq l1 a2 t484 t488 x30_5 = some r) ∧ Aside0 (kq ≤ k) ∧ Aside0 (Kd.N (Kd.slice 36 k36) 27 wc w.heap.size (fun k_ => (P0_ k_ ∨ w.heap.size ≤ k_)) v489 t488) ∧ Aside0 (Below w.heap.size w wc))
 case first =>
  have H := HC6.out
  clear HC6
  by_cases c12 : t484 = true
  ·subst c12
   have H1 : (if t491 = true then (moultlaw12_MergeThins.j0 k l1 a2 true t488 (decide ((l1.length : Int) > 20))) else (moultlaw12_MergeThins.j0 k l1 a2 true t488 true)) = some r := by rw [if_pos rfl] at H; exact H
   clear H
   have H := H1
   clear H1
   by_cases c13 : t491 = true
   ·subst c13
    have H1 : (moultlaw12_MergeThins.j0 k l1 a2 true t488 (decide ((l1.length : Int) > 20))) = some r := by rw [if_pos rfl] at H; exact H
    clear H
    have H := H1
    clear H1
    have H' := Aside0.mk H
    clear H
    go_wp2
    go_meet
    case rel => exact ⟨_, (decide ((l1.length : Int) > 20)), (by first | rfl | (simp; done) | (simp [*]; done)), H', ⟨by first | omega | exact Nat.le_refl _⟩, ⟨by (with_reducible repeat (first | apply Kd.N_alloc | apply Kd.N_drewN | apply Kd.N_drew)); exact HO490.out⟩, ⟨by repeat (first | (with_reducible first | exact HB.out | apply below_alloc | apply pw_below_drewN | apply below_drew1) | exact HB.out)⟩⟩
   ·replace c13 := Bool.eq_false_iff.mpr c13
    subst c13
    have H1 : (moultlaw12_MergeThins.j0 k l1 a2 true t488 true) = some r := by rw [if_neg (show ¬ (false = true) by decide)] at H; exact H
    clear H
    have H := H1
    clear H1
    have H' := Aside0.mk H
    clear H
    go_wp2
    go_meet
    case rel => exact ⟨_, (true), (by first | rfl | (simp; done) | (simp [*]; done)), H', ⟨by first | omega | exact Nat.le_refl _⟩, ⟨by (with_reducible repeat (first | apply Kd.N_alloc | apply Kd.N_drewN | apply Kd.N_drew)); exact HO490.out⟩, ⟨by repeat (first | (with_reducible first | exact HB.out | apply below_alloc | apply pw_below_drewN | apply below_drew1) | exact HB.out)⟩⟩
  ·replace c12 := Bool.eq_false_iff.mpr c12
   subst c12
   have H1 : (moultlaw12_MergeThins.j0 k l1 a2 false t488 true) = some r := by rw [if_neg (show ¬ (false = true) by decide)] at H; exact H
   clear H
   have H := H1
   clear H1
   have H' := Aside0.mk H
   clear H
   go_wp2
   go_meet
   case rel => exact ⟨_, (true), (by first | rfl | (simp; done) | (simp [*]; done)), H', ⟨by first | omega | exact Nat.le_refl _⟩, ⟨by (with_reducible repeat (first | apply Kd.N_alloc | apply Kd.N_drewN | apply Kd.N_drew)); exact HO490.out⟩, ⟨by repeat (first | (with_reducible first | exact HB.out | apply below_alloc | apply pw_below_drewN | apply below_drew1) | exact HB.out)⟩⟩
 case rest =>
  clear HC6
  try clear c1
  try clear p2
  try clear c5
  try clear c9
  try clear c10
  try clear c12
  try clear c13
  obtain ⟨kq, x30_5, rfl, HA, HJ5, HO_8, HB⟩ := hcut
  cases kq with
  | zero => exact absurd HA.out (by simp [moultlaw12_MergeThins.j0])
  | succ kj5 =>
   have H := HA.out
   clear HA
   simp only [moultlaw12_MergeThins.j0] at H
   by_cases c14 : x30_5 = true
   ·subst c14
    have H1 : (some t484) = some r := by rw [if_pos rfl] at H; exact H
    clear H
    have H := H1
    clear H1
    obtain rfl := Option.some.inj H
    go_wp2
    go_ret
    exact ⟨by first | rfl | (simp [errW_none, errW_some] <;> rfl) | (simp [*, errW_none, errW_some] <;> rfl), by repeat (first | (with_reducible first | exact HB.out | apply below_alloc | apply pw_below_drewN | apply below_drew1) | exact HB.out)⟩
   ·replace c14 := Bool.eq_false_iff.mpr c14
    subst c14
    have H1 : (if 0 < (t488.length : Int) then ((merge_Thin.f kj5 (rd_L4 t488 0) l1 a2).bind fun t493 => ((merge_Visible.f kj5 t493 1125899906842624).bind fun t496 => ((merge_Visible.f kj5 (rd_L4 t488 0) 1125899906842624).bind fun t500 => ((moultlaw12_same.f kj5 t496 t500).bind fun t503 => (if t503 = true then (if (t493.length : Int) > ((rd_L4 t488 0).length : Int) then (moultlaw12_MergeThins.j1 kj5 l1 a2 t488 t493 true) else ((merge_Sorted.f kj5 t493).bind fun t505 => (moultlaw12_MergeThins.j1 kj5 l1 a2 t488 t493 (!t505)))) else (moultlaw12_MergeThins.j1 kj5 l1 a2 t488 t493 true)))))) else (none)) = some r := by rw [if_neg (show ¬ (false = true) by decide)] at H; exact H
    clear H
    have H := H1
    clear H1
    by_cases c15 : 0 < (t488.length : Int)
    ·rw [if_pos c15] at H
     have c15b0 : decide (0 < (t488.length : Int)) = true := decide_eq_true c15
     have c15b1 : decide (0 < t488.length) = true := decide_eq_true (by omega)
     clear c15
     replace H := Option.bind_eq_some_iff.mp H
     obtain ⟨t493, A160, H⟩ := H
     replace H : ((merge_Visible.f kj5 t493 1125899906842624).bind fun t496 => ((merge_Visible.f kj5 (rd_L4 t488 0) 1125899906842624).bind fun t500 => ((moultlaw12_same.f kj5 t496 t500).bind fun t503 => (if t503 = true then (if (t493.length : Int) > ((rd_L4 t488 0).length : Int) then (moultlaw12_MergeThins.j1 kj5 l1 a2 t488 t493 true) else ((merge_Sorted.f kj5 t493).bind fun t505 => (moultlaw12_MergeThins.j1 kj5 l1 a2 t488 t493 (!t505)))) else (moultlaw12_MergeThins.j1 kj5 l1 a2 t488 t493 true))))) = some r := H
     have A16 := Aside0.mk A160
     clear A160
     have HC17 := Aside0.mk H
     clear H
     obtain ⟨Ao18, co18, eo18⟩ := Kd.N_slice HO_8.out
     subst eo18
     have p492 : 0 ≤ (0 : Int) := (by omega)
     have q492 : 0 < (t488.length : Int) := of_decide_eq_true (by first | (with_reducible assumption) | assumption)
     obtain ⟨ad492, A492_0, c492_0, e492, hx492_0, hl492_0, hi492_0⟩ := at_L4 (Kd.N_reads' HO_8.out).2.2 0 p492 q492
     cases e492
     obtain ⟨ce492, hce492, hMe492, hcc492⟩ := Kd.N_get HO_8.out [] 0 p492 (by first | exact q492 | exact of_decide_eq_true (by first | (with_reducible assumption) | assumption) | (have e_ := (Kd.N_reads' HO_8.out).1; omega))
     obtain ⟨ua492_0, uc492_0, rfl, ul492_0, ge492_0⟩ := Kd.FK_slice_open hMe492
     have hv492_0 := hcc492 0 _ rfl
     rw [Nat.add_zero, show ((Kd.slice 36 k36)).sz = 1 from rfl, Nat.mul_one] at hv492_0
     replace hv492_0 := Option.some.inj (hv492_0.symm.trans hx492_0)
     injection hv492_0 with hva_ hvn_ hvc_
     rw [hva_] at ge492_0
     rw [hvc_] at ul492_0
     have HL492_0 := Aside0.mk (show Kd.V k36 36 _ w.heap.size _ _ (rd_L4 t488 0) from Kd.V_mk ul492_0 ge492_0)
     clear hva_ hvn_ hvc_ ge492_0 ul492_0
     clear hcc492 hce492
     have qi492 : (0 < t488.length) = True := eq_true (by omega)
     (try rw [show ((0 : Int)).toNat = 0 from rfl] at hx492_0)
     (try rw [Addr.add_zero'] at hx492_0)
     have HR492_0 := Aside0.mk hi492_0
     have HC492_0 := Aside0.mk hl492_0
     clear hi492_0 hl492_0
     replace p492 := eq_true p492
     replace q492 := eq_true q492
     go_upto_region 6 with (first | ((with_reducible refine gate_callee (f := 16) rfl ?_); refine goesL_ (some 37) rfl rfl Try.func16 (by kernel_rfl) rfl #[.slice A492_0 (rd_L4 t488 0).length c492_0, .slice A1 l1.length c1, .bool a2] rfl (by (try simp only [List.map_toArray, List.map_cons, List.map_nil]); first | done | rfl | (simp only [List.length_drop, List.length_take]; rfl)) ?_; (with_reducible refine (merge_Thin.calls kj5 _ _ (rd_L4 t488 0) _ _ l1 a2 t493 _ ?side1 ?side2 ?side3 ?side4 A16.out).mono ?_); (case side1 => repeat (first | exact (by repeat (first | (with_reducible exact HR492_0.out) | (with_reducible refine Kd.C_alloc ?_ _) | (with_reducible refine Kd.C_drewN ?_ _) | (with_reducible refine Kd.C_drew ?_) | exact HR492_0.out)) | (with_reducible refine Kd.C_alloc ?_ _) | (with_reducible refine Kd.C_drewN ?_ _) | (with_reducible refine Kd.C_drew ?_))); (case side2 => exact HC492_0.out); (case side3 => repeat (first | exact (Kd.C_below HR1.out HB.out) | (with_reducible refine Kd.C_alloc ?_ _) | (with_reducible refine Kd.C_drewN ?_ _) | (with_reducible refine Kd.C_drew ?_))); (case side4 => exact HC1.out); rintro e w19 ⟨v494, rfl, ho0, hb⟩; refine ⟨_, rfl, ?_⟩; have n0_ := Aside0.mk (Kd.N_elder' (by (with_reducible repeat (first | apply Kd.N_alloc | apply Kd.N_drewN | apply Kd.N_drew)); exact HO_8.out) (Kd.R_base ho0) hb); have n1_ := Aside0.mk (Kd.V_elder' (by (with_reducible repeat (first | apply Kd.V_alloc | apply Kd.V_drewN | apply Kd.V_drew)); exact HL492_0.out) (Kd.R_base ho0) hb); have n2_ := Aside0.mk (Kd.R_lower (Kd.R_newM (M := fun k_ => (w.heap.size ≤ k_)) ho0 (below_size (by repeat (first | (with_reducible first | exact HB.out | apply below_alloc | apply pw_below_drewN | apply below_drew1) | exact HB.out))) (fun k_ h_ => h_)) (below_size (by repeat (first | (with_reducible first | exact HB.out | apply below_alloc | apply pw_below_drewN | apply below_drew1) | exact HB.out)))); have n3_ := Aside0.mk (Kd.C_below (by repeat (first | (with_reducible exact HR492_0.out) | (with_reducible refine Kd.C_alloc ?_ _) | (with_reducible refine Kd.C_drewN ?_ _) | (with_reducible refine Kd.C_drew ?_) | exact HR492_0.out)) hb); have n4_ := Aside0.mk (below_step (by repeat (first | (with_reducible first | exact HB.out | apply below_alloc | apply pw_below_drewN | apply below_drew1) | exact HB.out)) hb); clear HO_8; clear HL492_0; clear HR492_0; clear HB; have HO_8 := n0_; have HL492_0 := n1_; have HO495 := n2_; have HR492_0 := n3_; have HB := n4_; clear n0_ n1_ n2_ n3_ n4_; (try clear hb); (try clear hb2); (try clear hk); (try clear hi); (try clear ho0)))
     (try simp only [Act.put, List.setIfInBounds_toArray, List.set_cons_zero, List.set_cons_succ])
     go_cut [59] (fun v59 wc => ∃ (kq : Nat) (x59_16 : Bool), v59 = .bool x59_16 ∧ Aside0 (moultlaw12_MergeThins.j1 kq l1 a2 t488 t493 x59_16 = some r) ∧ Aside0 (kq ≤ kj5) ∧ Aside0 (Kd.N (Kd.slice 36 k36) 27 wc w.heap.size (fun k_ => (P0_ k_ ∨ w.heap.size ≤ k_) ∧ some k_ ≠ (v494 : Value).ownBlock) (.slice (some ad492) t488.length co18) t488) ∧ Aside0 (Kd.R k36 36 wc w.heap.size (fun k_ => (w.heap.size ≤ k_)) v494 t493) ∧ Aside0 (Kd.C k36 wc A492_0 (rd_L4 t488 0).length (rd_L4 t488 0)) ∧ Aside0 (Below w.heap.size w wc))
     case first =>
      have H := HC17.out
      clear HC17
      replace H := Option.bind_eq_some_iff.mp H
      obtain ⟨t496, A200, H⟩ := H
      replace H : ((merge_Visible.f kj5 (rd_L4 t488 0) 1125899906842624).bind fun t500 => ((moultlaw12_same.f kj5 t496 t500).bind fun t503 => (if t503 = true then (if (t493.length : Int) > ((rd_L4 t488 0).length : Int) then (moultlaw12_MergeThins.j1 kj5 l1 a2 t488 t493 true) else ((merge_Sorted.f kj5 t493).bind fun t505 => (moultlaw12_MergeThins.j1 kj5 l1 a2 t488 t493 (!t505)))) else (moultlaw12_MergeThins.j1 kj5 l1 a2 t488 t493 true)))) = some r := H
      have A20 := Aside0.mk A200
      clear A200
      replace H := Option.bind_eq_some_iff.mp H
      obtain ⟨t500, A210, H⟩ := H
      replace H : ((moultlaw12_same.f kj5 t496 t500).bind fun t503 => (if t503 = true then (if (t493.length : Int) > ((rd_L4 t488 0).length : Int) then (moultlaw12_MergeThins.j1 kj5 l1 a2 t488 t493 true) else ((merge_Sorted.f kj5 t493).bind fun t505 => (moultlaw12_MergeThins.j1 kj5 l1 a2 t488 t493 (!t505)))) else (moultlaw12_MergeThins.j1 kj5 l1 a2 t488 t493 true))) = some r := H
      have A21 := Aside0.mk A210
      clear A210
      replace H := Option.bind_eq_some_iff.mp H
      obtain ⟨t503, A220, H⟩ := H
      replace H : (if t503 = true then (if (t493.length : Int) > ((rd_L4 t488 0).length : Int) then (moultlaw12_MergeThins.j1 kj5 l1 a2 t488 t493 true) else ((merge_Sorted.f kj5 t493).bind fun t505 => (moultlaw12_MergeThins.j1 kj5 l1 a2 t488 t493 (!t505)))) else (moultlaw12_MergeThins.j1 kj5 l1 a2 t488 t493 true)) = some r := H
      have A22 := Aside0.mk A220
      clear A220
      by_cases c23 : t503 = true
      ·subst c23
       have H1 : (if (t493.length : Int) > ((rd_L4 t488 0).length : Int) then (moultlaw12_MergeThins.j1 kj5 l1 a2 t488 t493 true) else ((merge_Sorted.f kj5 t493).bind fun t505 => (moultlaw12_MergeThins.j1 kj5 l1 a2 t488 t493 (!t505)))) = some r := by rw [if_pos rfl] at H; exact H
       clear H
       have H := H1
       clear H1
       by_cases c24 : (t493.length : Int) > ((rd_L4 t488 0).length : Int)
       ·rw [if_pos c24] at H
        have c24b0 : decide (((rd_L4 t488 0).length : Int) < (t493.length : Int)) = true := decide_eq_true c24
        have c24b1 : decide ((rd_L4 t488 0).length < t493.length) = true := decide_eq_true (Int.ofNat_lt.mp c24)
        clear c24
        (first | rw [c24b0] | (simp only [i64_w, i32_w]; rw [c24b0]) | skip)
        have H' := Aside0.mk H
        clear H
        try go_wp2
        have n0_ := Aside0.mk (Kd.N_drew HO_8.out)
        have n1_ := Aside0.mk (Kd.V_drew HL492_0.out)
        have n2_ := Aside0.mk (Kd.R_drew HO495.out)
        have n3_ := Aside0.mk (Kd.C_drew HR492_0.out)
        have n4_ := Aside0.mk (below_drew1 HB.out)
        clear HO_8
        clear HL492_0
        clear HO495
        clear HR492_0
        clear HB
        have HO_8 := n0_
        have HL492_0 := n1_
        have HO495 := n2_
        have HR492_0 := n3_
        have HB := n4_
        clear n0_ n1_ n2_ n3_ n4_
        have p499 : 0 ≤ (0 : Int) := (by omega)
        have q499 : 0 < (t488.length : Int) := of_decide_eq_true (by first | (with_reducible assumption) | assumption)
        obtain ⟨ad499, A499_0, c499_0, e499, hx499_0, hl499_0, hi499_0⟩ := at_L4 (Kd.N_reads' HO_8.out).2.2 0 p499 q499
        obtain rfl : ad492 = ad499 := (by injection e499)
        obtain ⟨ce499, hce499, hMe499, hcc499⟩ := Kd.N_get HO_8.out [] 0 p499 (by first | exact q499 | exact of_decide_eq_true (by first | (with_reducible assumption) | assumption) | (have e_ := (Kd.N_reads' HO_8.out).1; omega))
        obtain ⟨ua499_0, uc499_0, rfl, ul499_0, ge499_0⟩ := Kd.FK_slice_open hMe499
        have hv499_0 := hcc499 0 _ rfl
        rw [Nat.add_zero, show ((Kd.slice 36 k36)).sz = 1 from rfl, Nat.mul_one] at hv499_0
        replace hv499_0 := Option.some.inj (hv499_0.symm.trans hx499_0)
        injection hv499_0 with hva_ hvn_ hvc_
        rw [hva_] at ge499_0
        rw [hvc_] at ul499_0
        have HL499_0 := Aside0.mk (show Kd.V k36 36 _ w.heap.size _ _ (rd_L4 t488 0) from Kd.V_mk ul499_0 ge499_0)
        clear hva_ hvn_ hvc_ ge499_0 ul499_0
        clear hcc499 hce499
        have qi499 : (0 < t488.length) = True := eq_true (by omega)
        (try rw [show ((0 : Int)).toNat = 0 from rfl] at hx499_0)
        (try rw [Addr.add_zero'] at hx499_0)
        have HR499_0 := Aside0.mk hi499_0
        have HC499_0 := Aside0.mk hl499_0
        clear hi499_0 hl499_0
        replace p499 := eq_true p499
        replace q499 := eq_true q499
        obtain ⟨Ao26, co26, eo26⟩ := Kd.R_slice HO495.out
        (first | subst eo26 | (injection eo26 with f1_ f2_ f3_; have f4_ := f1_.symm; have f5_ := f3_.symm; clear f1_ f2_ f3_; subst f4_; subst f5_))
        have p504 : 0 ≤ (0 : Int) := (by omega)
        have q504 : 0 < (t488.length : Int) := of_decide_eq_true (by first | (with_reducible assumption) | assumption)
        obtain ⟨ad504, A504_0, c504_0, e504, hx504_0, hl504_0, hi504_0⟩ := at_L4 (Kd.N_reads' HO_8.out).2.2 0 p504 q504
        obtain rfl : ad492 = ad504 := (by injection e504)
        obtain ⟨ce504, hce504, hMe504, hcc504⟩ := Kd.N_get HO_8.out [] 0 p504 (by first | exact q504 | exact of_decide_eq_true (by first | (with_reducible assumption) | assumption) | (have e_ := (Kd.N_reads' HO_8.out).1; omega))
        obtain ⟨ua504_0, uc504_0, rfl, ul504_0, ge504_0⟩ := Kd.FK_slice_open hMe504
        have hv504_0 := hcc504 0 _ rfl
        rw [Nat.add_zero, show ((Kd.slice 36 k36)).sz = 1 from rfl, Nat.mul_one] at hv504_0
        replace hv504_0 := Option.some.inj (hv504_0.symm.trans hx504_0)
        injection hv504_0 with hva_ hvn_ hvc_
        rw [hva_] at ge504_0
        rw [hvc_] at ul504_0
        have HL504_0 := Aside0.mk (show Kd.V k36 36 _ w.heap.size _ _ (rd_L4 t488 0) from Kd.V_mk ul504_0 ge504_0)
        clear hva_ hvn_ hvc_ ge504_0 ul504_0
        clear hcc504 hce504
        have qi504 : (0 < t488.length) = True := eq_true (by omega)
        (try rw [show ((0 : Int)).toNat = 0 from rfl] at hx504_0)
        (try rw [Addr.add_zero'] at hx504_0)
        have HR504_0 := Aside0.mk hi504_0
        have HC504_0 := Aside0.mk hl504_0
        clear hi504_0 hl504_0
        replace p504 := eq_true p504
        replace q504 := eq_true q504
        refine start_ (n := 22) (S := fun w' => w'.cell? ad492 = some (.slice A499_0 (rd_L4 t488 0).length c499_0) ∧ w'.cell? ad492 = some (.slice A504_0 (rd_L4 t488 0).length c504_0)) (ds := []) #[ff, ff, ff, ff, ff, ff, ff, ff, ff, ff, ff, ff, ff, ff, ff, ff, ff, ff, ff, ff, ff, ff] (by kernel_rfl) rfl rfl ⟨hx499_0, hx504_0⟩ (fun hHeld => ?_); refine with_tabW moultlaw12_MergeThins.tab6 moultlaw12_MergeThins.bits6 (fun HT_ HW_ => ?_)
        generalize w19.drew = w25 at HO_8 HL492_0 HO495 HR492_0 HB HL499_0 HL504_0 HR499_0 HR504_0 hx499_0 hx504_0 hHeld ⊢
        refine pq_ (i := 0) (N := some 38) HT_ #[tt, ff, ff, ff, ff, ff, ff, ff, ff, ff, ff, ff, ff, ff, ff, ff, ff, ff, ff, ff, ff, ff] ?_
        refine pq_ (i := 2) (N := some 40) HT_ #[tt, ff, tt, ff, ff, ff, ff, ff, ff, ff, ff, ff, ff, ff, ff, ff, ff, ff, ff, ff, ff, ff] ?_
        refine pq_ (i := 3) (N := some 41) HT_ #[tt, ff, tt, tt, ff, ff, ff, ff, ff, ff, ff, ff, ff, ff, ff, ff, ff, ff, ff, ff, ff, ff] ?_
        refine take_ (i := 4) (N := some 42) (v := ?_) (a' := ?_) #[tt, ff, tt, tt, tt, ff, ff, ff, ff, ff, ff, ff, ff, ff, ff, ff, ff, ff, ff, ff, ff, ff] rfl rfl (take_ofW HT_.out HW_.out (by kernel_rfl)) (fun _ _ _ h => h) (Or.inl ⟨by rfl, ?_⟩) hHeld ?_ ?_
        rotate_left
        ·rintro w' ⟨s0, s1⟩
         go_simp
         with_reducible rfl
        rotate_left
        ·simp only [Act.put, List.setIfInBounds_toArray, List.set_cons_zero, List.set_cons_succ, i64_w, i32_w]
         rfl
        refine one_ (i := 1) (N := some 39) #[tt, tt, tt, tt, tt, ff, ff, ff, ff, ff, ff, ff, ff, ff, ff, ff, ff, ff, ff, ff, ff, ff] rfl rfl (one_of HT_.out (by kernel_rfl)) (by decide) (fun K hK => ?_)
        refine goes_ Try.func14 (by kernel_rfl) rfl #[.slice Ao26 t493.length co26, .int .i64 1125899906842624] (by rfl) rfl rfl (by (try simp only [List.map_toArray, List.map_cons, List.map_nil]); first | done | rfl | (simp only [List.length_drop, List.length_take]; rfl)) ?_
        with_reducible refine (merge_Visible.calls kj5 _ _ t493 1125899906842624 t496 _ ?side1 ?side2 A20.out).mono ?_
        (case side1 => repeat (first | exact (Kd.R_reads' HO495.out).2.2 | (with_reducible refine Kd.C_alloc ?_ _) | (with_reducible refine Kd.C_drewN ?_ _) | (with_reducible refine Kd.C_drew ?_)))
        (case side2 => exact (Kd.R_reads' HO495.out).2.1)
        rintro e w27 ⟨v497, rfl, ho0, hb⟩
        have HS0_ := (hb.cell (World.block_lt_of_cell? _ _ (hHeld.1))).trans (hHeld.1)
        have HS1_ := (hb.cell (World.block_lt_of_cell? _ _ (hHeld.2))).trans (hHeld.2)
        refine ⟨_, rfl, ?_⟩
        have n0_ := Aside0.mk (Kd.N_elder' (by (with_reducible repeat (first | apply Kd.N_alloc | apply Kd.N_drewN | apply Kd.N_drew)); exact HO_8.out) (Kd.R_base ho0) hb)
        have n1_ := Aside0.mk (Kd.V_elder' (by (with_reducible repeat (first | apply Kd.V_alloc | apply Kd.V_drewN | apply Kd.V_drew)); exact HL492_0.out) (Kd.R_base ho0) hb)
        have n2_ := Aside0.mk (Kd.R_elder' (by (with_reducible repeat (first | apply Kd.R_alloc | apply Kd.R_drewN | apply Kd.R_drew)); exact HO495.out) (Kd.R_base ho0) hb)
        have n3_ := Aside0.mk (Kd.V_elder' (by (with_reducible repeat (first | apply Kd.V_alloc | apply Kd.V_drewN | apply Kd.V_drew)); exact HL499_0.out) (Kd.R_base ho0) hb)
        have n3HL_ := Aside0.mk (Kd.V_elder' (by (with_reducible repeat (first | apply Kd.V_alloc | apply Kd.V_drewN | apply Kd.V_drew)); exact HL504_0.out) (Kd.R_base ho0) hb)
        have n4_ := Aside0.mk (Kd.R_lower (Kd.R_new' (Kd.R_newM (M := fun k_ => (w.heap.size ≤ k_)) ho0 (below_size (by repeat (first | (with_reducible first | exact HB.out | apply below_alloc | apply pw_below_drewN | apply below_drew1) | exact HB.out))) (fun k_ h_ => h_)) (Kd.R_lt (by (with_reducible repeat (first | apply Kd.R_alloc | apply Kd.R_drewN | apply Kd.R_drew)); exact HO495.out))) (below_size (by repeat (first | (with_reducible first | exact HB.out | apply below_alloc | apply pw_below_drewN | apply below_drew1) | exact HB.out))))
        have n5_ := Aside0.mk (Kd.C_below (by repeat (first | (with_reducible exact HR492_0.out) | (with_reducible refine Kd.C_alloc ?_ _) | (with_reducible refine Kd.C_drewN ?_ _) | (with_reducible refine Kd.C_drew ?_) | exact HR492_0.out)) hb)
        have n6_ := Aside0.mk (Kd.C_below (by repeat (first | (with_reducible exact HR499_0.out) | (with_reducible refine Kd.C_alloc ?_ _) | (with_reducible refine Kd.C_drewN ?_ _) | (with_reducible refine Kd.C_drew ?_) | exact HR499_0.out)) hb)
        have n6HR_ := Aside0.mk (Kd.C_below (by repeat (first | (with_reducible exact HR504_0.out) | (with_reducible refine Kd.C_alloc ?_ _) | (with_reducible refine Kd.C_drewN ?_ _) | (with_reducible refine Kd.C_drew ?_) | exact HR504_0.out)) hb)
        have n7_ := Aside0.mk (below_step (by repeat (first | (with_reducible first | exact HB.out | apply below_alloc | apply pw_below_drewN | apply below_drew1) | exact HB.out)) hb)
        clear HO_8
        clear HL492_0
        clear HO495
        clear HL499_0
        clear HL504_0
        clear HR492_0
        clear HR499_0
        clear HR504_0
        clear HB
        have HO_8 := n0_
        have HL492_0 := n1_
        have HO495 := n2_
        have HL499_0 := n3_
        have HL504_0 := n3HL_
        clear n3HL_
        have HO498 := n4_
        have HR492_0 := n5_
        have HR499_0 := n6_
        have HR504_0 := n6HR_
        clear n6HR_
        have HB := n7_
        clear n0_ n1_ n2_ n3_ n4_ n5_ n6_ n7_
        (try clear hb)
        (try clear hb2)
        (try clear hk)
        (try clear hi)
        (try clear ho0)
        refine hK.out _ _ ⟨HS0_, HS1_⟩ (fun hHeld => ?_)
        clear hK K
        refine norm_ (a' := ?_) ?_ ?_
        rotate_left
        ·show Act.put _ (some 39) _ = _
         simp only [Act.put, List.setIfInBounds_toArray, List.set_cons_zero, List.set_cons_succ, i64_w, i32_w]
         rfl
        refine one_ (i := 5) (N := some 43) #[tt, tt, tt, tt, tt, tt, ff, ff, ff, ff, ff, ff, ff, ff, ff, ff, ff, ff, ff, ff, ff, ff] rfl rfl (one_of HT_.out (by kernel_rfl)) (by decide) (fun K hK => ?_)
        refine goes_ Try.func14 (by kernel_rfl) rfl #[.slice A499_0 (rd_L4 t488 0).length c499_0, .int .i64 1125899906842624] (by rfl) rfl rfl (by (try simp only [List.map_toArray, List.map_cons, List.map_nil]); first | done | rfl | (simp only [List.length_drop, List.length_take]; rfl)) ?_
        with_reducible refine (merge_Visible.calls kj5 _ _ (rd_L4 t488 0) 1125899906842624 t500 _ ?side1 ?side2 A21.out).mono ?_
        (case side1 => repeat (first | exact (by repeat (first | (with_reducible exact HR499_0.out) | (with_reducible refine Kd.C_alloc ?_ _) | (with_reducible refine Kd.C_drewN ?_ _) | (with_reducible refine Kd.C_drew ?_) | exact HR499_0.out)) | (with_reducible refine Kd.C_alloc ?_ _) | (with_reducible refine Kd.C_drewN ?_ _) | (with_reducible refine Kd.C_drew ?_)))
        (case side2 => exact HC499_0.out)
        rintro e w28 ⟨v501, rfl, ho0, hb⟩
        have HS0_ := (hb.cell (World.block_lt_of_cell? _ _ (hHeld.1))).trans (hHeld.1)
        have HS1_ := (hb.cell (World.block_lt_of_cell? _ _ (hHeld.2))).trans (hHeld.2)
        refine ⟨_, rfl, ?_⟩
        have n0_ := Aside0.mk (Kd.N_elder' (by (with_reducible repeat (first | apply Kd.N_alloc | apply Kd.N_drewN | apply Kd.N_drew)); exact HO_8.out) (Kd.R_base ho0) hb)
        have n1_ := Aside0.mk (Kd.V_elder' (by (with_reducible repeat (first | apply Kd.V_alloc | apply Kd.V_drewN | apply Kd.V_drew)); exact HL492_0.out) (Kd.R_base ho0) hb)
        have n2_ := Aside0.mk (Kd.R_elder' (by (with_reducible repeat (first | apply Kd.R_alloc | apply Kd.R_drewN | apply Kd.R_drew)); exact HO495.out) (Kd.R_base ho0) hb)
        have n3_ := Aside0.mk (Kd.V_elder' (by (with_reducible repeat (first | apply Kd.V_alloc | apply Kd.V_drewN | apply Kd.V_drew)); exact HL499_0.out) (Kd.R_base ho0) hb)
        have n3HL_ := Aside0.mk (Kd.V_elder' (by (with_reducible repeat (first | apply Kd.V_alloc | apply Kd.V_drewN | apply Kd.V_drew)); exact HL504_0.out) (Kd.R_base ho0) hb)
        have n4_ := Aside0.mk (Kd.R_elder' (by (with_reducible repeat (first | apply Kd.R_alloc | apply Kd.R_drewN | apply Kd.R_drew)); exact HO498.out) (Kd.R_base ho0) hb)
        have n5_ := Aside0.mk (Kd.R_lower (Kd.R_new' (Kd.R_new' (Kd.R_newM (M := fun k_ => (w.heap.size ≤ k_)) ho0 (below_size (by repeat (first | (with_reducible first | exact HB.out | apply below_alloc | apply pw_below_drewN | apply below_drew1) | exact HB.out))) (fun k_ h_ => h_)) (Kd.R_lt (by (with_reducible repeat (first | apply Kd.R_alloc | apply Kd.R_drewN | apply Kd.R_drew)); exact HO495.out))) (Kd.R_lt (by (with_reducible repeat (first | apply Kd.R_alloc | apply Kd.R_drewN | apply Kd.R_drew)); exact HO498.out))) (below_size (by repeat (first | (with_reducible first | exact HB.out | apply below_alloc | apply pw_below_drewN | apply below_drew1) | exact HB.out))))
        have n6_ := Aside0.mk (Kd.C_below (by repeat (first | (with_reducible exact HR492_0.out) | (with_reducible refine Kd.C_alloc ?_ _) | (with_reducible refine Kd.C_drewN ?_ _) | (with_reducible refine Kd.C_drew ?_) | exact HR492_0.out)) hb)
        have n7_ := Aside0.mk (Kd.C_below (by repeat (first | (with_reducible exact HR499_0.out) | (with_reducible refine Kd.C_alloc ?_ _) | (with_reducible refine Kd.C_drewN ?_ _) | (with_reducible refine Kd.C_drew ?_) | exact HR499_0.out)) hb)
        have n7HR_ := Aside0.mk (Kd.C_below (by repeat (first | (with_reducible exact HR504_0.out) | (with_reducible refine Kd.C_alloc ?_ _) | (with_reducible refine Kd.C_drewN ?_ _) | (with_reducible refine Kd.C_drew ?_) | exact HR504_0.out)) hb)
        have n8_ := Aside0.mk (below_step (by repeat (first | (with_reducible first | exact HB.out | apply below_alloc | apply pw_below_drewN | apply below_drew1) | exact HB.out)) hb)
        clear HO_8
        clear HL492_0
        clear HO495
        clear HL499_0
        clear HL504_0
        clear HO498
        clear HR492_0
        clear HR499_0
        clear HR504_0
        clear HB
        have HO_8 := n0_
        have HL492_0 := n1_
        have HO495 := n2_
        have HL499_0 := n3_
        have HL504_0 := n3HL_
        clear n3HL_
        have HO498 := n4_
        have HO502 := n5_
        have HR492_0 := n6_
        have HR499_0 := n7_
        have HR504_0 := n7HR_
        clear n7HR_
        have HB := n8_
        clear n0_ n1_ n2_ n3_ n4_ n5_ n6_ n7_ n8_
        (try clear hb)
        (try clear hb2)
        (try clear hk)
        (try clear hi)
        (try clear ho0)
        obtain ⟨Ao29, co29, eo29⟩ := Kd.R_slice HO498.out
        (first | subst eo29 | (injection eo29 with f1_ f2_ f3_; have f4_ := f1_.symm; have f5_ := f3_.symm; clear f1_ f2_ f3_; subst f4_; subst f5_))
        obtain ⟨Ao30, co30, eo30⟩ := Kd.R_slice HO502.out
        (first | subst eo30 | (injection eo30 with f1_ f2_ f3_; have f4_ := f1_.symm; have f5_ := f3_.symm; clear f1_ f2_ f3_; subst f4_; subst f5_))
        refine hK.out _ _ ⟨HS0_, HS1_⟩ (fun hHeld => ?_)
        clear hK K
        refine norm_ (a' := ?_) ?_ ?_
        rotate_left
        ·show Act.put _ (some 43) _ = _
         simp only [Act.put, List.setIfInBounds_toArray, List.set_cons_zero, List.set_cons_succ, i64_w, i32_w]
         rfl
        refine one_ (i := 6) (N := some 44) #[tt, tt, tt, tt, tt, tt, tt, ff, ff, ff, ff, ff, ff, ff, ff, ff, ff, ff, ff, ff, ff, ff] rfl rfl (one_of HT_.out (by kernel_rfl)) (by decide) (fun K hK => ?_)
        refine goes_ Try.func13 (by kernel_rfl) rfl #[.slice Ao29 t496.length co29, .slice Ao30 t500.length co30] (by rfl) rfl rfl (by (try simp only [List.map_toArray, List.map_cons, List.map_nil]); first | done | rfl | (simp only [List.length_drop, List.length_take]; rfl)) ?_
        with_reducible refine (moultlaw12_same.calls kj5 _ _ t496 _ _ t500 true _ ?side1 ?side2 ?side3 ?side4 A22.out).mono ?_
        (case side1 => repeat (first | exact (Kd.R_reads' HO498.out).2.2 | (with_reducible refine Kd.C_alloc ?_ _) | (with_reducible refine Kd.C_drewN ?_ _) | (with_reducible refine Kd.C_drew ?_)))
        (case side2 => exact (Kd.R_reads' HO498.out).2.1)
        (case side3 => repeat (first | exact (Kd.R_reads' HO502.out).2.2 | (with_reducible refine Kd.C_alloc ?_ _) | (with_reducible refine Kd.C_drewN ?_ _) | (with_reducible refine Kd.C_drew ?_)))
        (case side4 => exact (Kd.R_reads' HO502.out).2.1)
        rintro e w' ⟨rfl, ⟨nd, rfl⟩⟩
        refine ⟨_, rfl, ?_⟩
        refine hK.out _ _ ⟨hHeld.1, hHeld.2⟩ (fun hHeld => ?_)
        clear hK K
        refine norm_ (a' := ?_) ?_ ?_
        rotate_left
        ·show Act.put _ (some 44) _ = _
         simp only [Act.put, List.setIfInBounds_toArray, List.set_cons_zero, List.set_cons_succ, i64_w, i32_w]
         rfl
        refine pq_ (i := 7) (N := some 45) HT_ #[tt, tt, tt, tt, tt, tt, tt, tt, ff, ff, ff, ff, ff, ff, ff, ff, ff, ff, ff, ff, ff, ff] ?_
        refine pq_ (i := 8) (N := some 46) HT_ #[tt, tt, tt, tt, tt, tt, tt, tt, tt, ff, ff, ff, ff, ff, ff, ff, ff, ff, ff, ff, ff, ff] ?_
        refine pq_ (i := 9) (N := some 47) HT_ #[tt, tt, tt, tt, tt, tt, tt, tt, tt, tt, ff, ff, ff, ff, ff, ff, ff, ff, ff, ff, ff, ff] ?_
        refine pq_ (i := 10) (N := some 48) HT_ #[tt, tt, tt, tt, tt, tt, tt, tt, tt, tt, tt, ff, ff, ff, ff, ff, ff, ff, ff, ff, ff, ff] ?_
        refine pq_ (i := 11) (N := some 49) HT_ #[tt, tt, tt, tt, tt, tt, tt, tt, tt, tt, tt, tt, ff, ff, ff, ff, ff, ff, ff, ff, ff, ff] ?_
        refine pq_ (i := 12) (N := some 50) HT_ #[tt, tt, tt, tt, tt, tt, tt, tt, tt, tt, tt, tt, tt, ff, ff, ff, ff, ff, ff, ff, ff, ff] ?_
        refine take_ (i := 13) (N := some 51) (v := ?_) (a' := ?_) #[tt, tt, tt, tt, tt, tt, tt, tt, tt, tt, tt, tt, tt, tt, ff, ff, ff, ff, ff, ff, ff, ff] rfl rfl (take_ofW HT_.out HW_.out (by kernel_rfl)) (fun _ _ _ h => h) (Or.inl ⟨by rfl, ?_⟩) hHeld ?_ ?_
        rotate_left
        ·rintro w' ⟨s0, s1⟩
         go_simp
         with_reducible rfl
        rotate_left
        ·simp only [Act.put, List.setIfInBounds_toArray, List.set_cons_zero, List.set_cons_succ, i64_w, i32_w]
         rfl
        refine pq_ (i := 14) (N := some 52) HT_ #[tt, tt, tt, tt, tt, tt, tt, tt, tt, tt, tt, tt, tt, tt, tt, ff, ff, ff, ff, ff, ff, ff] ?_
        refine pq_ (i := 15) (N := some 53) HT_ #[tt, tt, tt, tt, tt, tt, tt, tt, tt, tt, tt, tt, tt, tt, tt, tt, ff, ff, ff, ff, ff, ff] ?_
        refine pq_ (i := 16) (N := some 54) HT_ #[tt, tt, tt, tt, tt, tt, tt, tt, tt, tt, tt, tt, tt, tt, tt, tt, tt, ff, ff, ff, ff, ff] ?_
        refine pq_ (i := 17) (N := some 55) HT_ #[tt, tt, tt, tt, tt, tt, tt, tt, tt, tt, tt, tt, tt, tt, tt, tt, tt, tt, ff, ff, ff, ff] ?_
        refine pu_ (i := 18) (N := some 56) HT_ #[tt, tt, tt, tt, tt, tt, tt, tt, tt, tt, tt, tt, tt, tt, tt, tt, tt, tt, tt, ff, ff, ff] ?_
        refine pu_ (i := 19) (N := some 57) HT_ #[tt, tt, tt, tt, tt, tt, tt, tt, tt, tt, tt, tt, tt, tt, tt, tt, tt, tt, tt, tt, ff, ff] ?_
        refine pu_ (i := 20) (N := some 58) HT_ #[tt, tt, tt, tt, tt, tt, tt, tt, tt, tt, tt, tt, tt, tt, tt, tt, tt, tt, tt, tt, tt, ff] ?_
        refine pq_ (i := 21) (N := some 59) HT_ #[tt, tt, tt, tt, tt, tt, tt, tt, tt, tt, tt, tt, tt, tt, tt, tt, tt, tt, tt, tt, tt, tt] ?_
        refine done_ (done_of HT_.out (by kernel_rfl)) ?_
        try go_wp2
        go_meet
        case rel => exact ⟨_, (true), (by first | rfl | (simp; done) | (simp [*]; done)), H', ⟨by have := HJ5.out; first | omega | exact Nat.le_refl _⟩, ⟨by (with_reducible repeat (first | apply Kd.N_alloc | apply Kd.N_drewN | apply Kd.N_drew)); exact Kd.N_mono HO_8.out (fun _ hk => ⟨hk.1.1.1, hk.1.1.2⟩)⟩, ⟨by (with_reducible repeat (first | apply Kd.R_alloc | apply Kd.R_drewN | apply Kd.R_drew)); exact Kd.R_mono HO495.out (fun _ hk => hk.1.1.1)⟩, ⟨by repeat (first | (with_reducible exact HR492_0.out) | (with_reducible refine Kd.C_alloc ?_ _) | (with_reducible refine Kd.C_drewN ?_ _) | (with_reducible refine Kd.C_drew ?_) | exact HR492_0.out)⟩, ⟨by repeat (first | (with_reducible first | exact HB.out | apply below_alloc | apply pw_below_drewN | apply below_drew1) | exact HB.out)⟩⟩
       ·rw [if_neg c24] at H
        have c24b0 : decide (((rd_L4 t488 0).length : Int) < (t493.length : Int)) = false := decide_eq_false c24
        have c24b1 : decide ((rd_L4 t488 0).length < t493.length) = false := decide_eq_false (fun h => c24 (Int.ofNat_lt.mpr h))
        clear c24
        (first | rw [c24b0] | (simp only [i64_w, i32_w]; rw [c24b0]) | skip)
        replace H := Option.bind_eq_some_iff.mp H
        obtain ⟨t505, A310, H⟩ := H
        replace H : (moultlaw12_MergeThins.j1 kj5 l1 a2 t488 t493 (!t505)) = some r := H
        have A31 := Aside0.mk A310
        clear A310
        have H' := Aside0.mk H
        clear H
        try go_wp2
        have n0_ := Aside0.mk (Kd.N_drew HO_8.out)
        have n1_ := Aside0.mk (Kd.V_drew HL492_0.out)
        have n2_ := Aside0.mk (Kd.R_drew HO495.out)
        have n3_ := Aside0.mk (Kd.C_drew HR492_0.out)
        have n4_ := Aside0.mk (below_drew1 HB.out)
        clear HO_8
        clear HL492_0
        clear HO495
        clear HR492_0
        clear HB
        have HO_8 := n0_
        have HL492_0 := n1_
        have HO495 := n2_
        have HR492_0 := n3_
        have HB := n4_
        clear n0_ n1_ n2_ n3_ n4_
        have p499 : 0 ≤ (0 : Int) := (by omega)
        have q499 : 0 < (t488.length : Int) := of_decide_eq_true (by first | (with_reducible assumption) | assumption)
        obtain ⟨ad499, A499_0, c499_0, e499, hx499_0, hl499_0, hi499_0⟩ := at_L4 (Kd.N_reads' HO_8.out).2.2 0 p499 q499
        obtain rfl : ad492 = ad499 := (by injection e499)
        obtain ⟨ce499, hce499, hMe499, hcc499⟩ := Kd.N_get HO_8.out [] 0 p499 (by first | exact q499 | exact of_decide_eq_true (by first | (with_reducible assumption) | assumption) | (have e_ := (Kd.N_reads' HO_8.out).1; omega))
        obtain ⟨ua499_0, uc499_0, rfl, ul499_0, ge499_0⟩ := Kd.FK_slice_open hMe499
        have hv499_0 := hcc499 0 _ rfl
        rw [Nat.add_zero, show ((Kd.slice 36 k36)).sz = 1 from rfl, Nat.mul_one] at hv499_0
        replace hv499_0 := Option.some.inj (hv499_0.symm.trans hx499_0)
        injection hv499_0 with hva_ hvn_ hvc_
        rw [hva_] at ge499_0
        rw [hvc_] at ul499_0
        have HL499_0 := Aside0.mk (show Kd.V k36 36 _ w.heap.size _ _ (rd_L4 t488 0) from Kd.V_mk ul499_0 ge499_0)
        clear hva_ hvn_ hvc_ ge499_0 ul499_0
        clear hcc499 hce499
        have qi499 : (0 < t488.length) = True := eq_true (by omega)
        (try rw [show ((0 : Int)).toNat = 0 from rfl] at hx499_0)
        (try rw [Addr.add_zero'] at hx499_0)
        have HR499_0 := Aside0.mk hi499_0
        have HC499_0 := Aside0.mk hl499_0
        clear hi499_0 hl499_0
        replace p499 := eq_true p499
        replace q499 := eq_true q499
        obtain ⟨Ao33, co33, eo33⟩ := Kd.R_slice HO495.out
        (first | subst eo33 | (injection eo33 with f1_ f2_ f3_; have f4_ := f1_.symm; have f5_ := f3_.symm; clear f1_ f2_ f3_; subst f4_; subst f5_))
        have p504 : 0 ≤ (0 : Int) := (by omega)
        have q504 : 0 < (t488.length : Int) := of_decide_eq_true (by first | (with_reducible assumption) | assumption)
        obtain ⟨ad504, A504_0, c504_0, e504, hx504_0, hl504_0, hi504_0⟩ := at_L4 (Kd.N_reads' HO_8.out).2.2 0 p504 q504
        obtain rfl : ad492 = ad504 := (by injection e504)
        obtain ⟨ce504, hce504, hMe504, hcc504⟩ := Kd.N_get HO_8.out [] 0 p504 (by first | exact q504 | exact of_decide_eq_true (by first | (with_reducible assumption) | assumption) | (have e_ := (Kd.N_reads' HO_8.out).1; omega))
        obtain ⟨ua504_0, uc504_0, rfl, ul504_0, ge504_0⟩ := Kd.FK_slice_open hMe504
        have hv504_0 := hcc504 0 _ rfl
        rw [Nat.add_zero, show ((Kd.slice 36 k36)).sz = 1 from rfl, Nat.mul_one] at hv504_0
        replace hv504_0 := Option.some.inj (hv504_0.symm.trans hx504_0)
        injection hv504_0 with hva_ hvn_ hvc_
        rw [hva_] at ge504_0
        rw [hvc_] at ul504_0
        have HL504_0 := Aside0.mk (show Kd.V k36 36 _ w.heap.size _ _ (rd_L4 t488 0) from Kd.V_mk ul504_0 ge504_0)
        clear hva_ hvn_ hvc_ ge504_0 ul504_0
        clear hcc504 hce504
        have qi504 : (0 < t488.length) = True := eq_true (by omega)
        (try rw [show ((0 : Int)).toNat = 0 from rfl] at hx504_0)
        (try rw [Addr.add_zero'] at hx504_0)
        have HR504_0 := Aside0.mk hi504_0
        have HC504_0 := Aside0.mk hl504_0
        clear hi504_0 hl504_0
        replace p504 := eq_true p504
        replace q504 := eq_true q504
        refine start_ (n := 22) (S := fun w' => w'.cell? ad492 = some (.slice A499_0 (rd_L4 t488 0).length c499_0) ∧ w'.cell? ad492 = some (.slice A504_0 (rd_L4 t488 0).length c504_0)) (ds := []) #[ff, ff, ff, ff, ff, ff, ff, ff, ff, ff, ff, ff, ff, ff, ff, ff, ff, ff, ff, ff, ff, ff] (by kernel_rfl) rfl rfl ⟨hx499_0, hx504_0⟩ (fun hHeld => ?_); refine with_tabW moultlaw12_MergeThins.tab6 moultlaw12_MergeThins.bits6 (fun HT_ HW_ => ?_)
        generalize w19.drew = w32 at HO_8 HL492_0 HO495 HR492_0 HB HL499_0 HL504_0 HR499_0 HR504_0 hx499_0 hx504_0 hHeld ⊢
        refine pq_ (i := 0) (N := some 38) HT_ #[tt, ff, ff, ff, ff, ff, ff, ff, ff, ff, ff, ff, ff, ff, ff, ff, ff, ff, ff, ff, ff, ff] ?_
        refine pq_ (i := 2) (N := some 40) HT_ #[tt, ff, tt, ff, ff, ff, ff, ff, ff, ff, ff, ff, ff, ff, ff, ff, ff, ff, ff, ff, ff, ff] ?_
        refine pq_ (i := 3) (N := some 41) HT_ #[tt, ff, tt, tt, ff, ff, ff, ff, ff, ff, ff, ff, ff, ff, ff, ff, ff, ff, ff, ff, ff, ff] ?_
        refine take_ (i := 4) (N := some 42) (v := ?_) (a' := ?_) #[tt, ff, tt, tt, tt, ff, ff, ff, ff, ff, ff, ff, ff, ff, ff, ff, ff, ff, ff, ff, ff, ff] rfl rfl (take_ofW HT_.out HW_.out (by kernel_rfl)) (fun _ _ _ h => h) (Or.inl ⟨by rfl, ?_⟩) hHeld ?_ ?_
        rotate_left
        ·rintro w' ⟨s0, s1⟩
         go_simp
         with_reducible rfl
        rotate_left
        ·simp only [Act.put, List.setIfInBounds_toArray, List.set_cons_zero, List.set_cons_succ, i64_w, i32_w]
         rfl
        refine one_ (i := 1) (N := some 39) #[tt, tt, tt, tt, tt, ff, ff, ff, ff, ff, ff, ff, ff, ff, ff, ff, ff, ff, ff, ff, ff, ff] rfl rfl (one_of HT_.out (by kernel_rfl)) (by decide) (fun K hK => ?_)
        refine goes_ Try.func14 (by kernel_rfl) rfl #[.slice Ao33 t493.length co33, .int .i64 1125899906842624] (by rfl) rfl rfl (by (try simp only [List.map_toArray, List.map_cons, List.map_nil]); first | done | rfl | (simp only [List.length_drop, List.length_take]; rfl)) ?_
        with_reducible refine (merge_Visible.calls kj5 _ _ t493 1125899906842624 t496 _ ?side1 ?side2 A20.out).mono ?_
        (case side1 => repeat (first | exact (Kd.R_reads' HO495.out).2.2 | (with_reducible refine Kd.C_alloc ?_ _) | (with_reducible refine Kd.C_drewN ?_ _) | (with_reducible refine Kd.C_drew ?_)))
        (case side2 => exact (Kd.R_reads' HO495.out).2.1)
        rintro e w34 ⟨v497, rfl, ho0, hb⟩
        have HS0_ := (hb.cell (World.block_lt_of_cell? _ _ (hHeld.1))).trans (hHeld.1)
        have HS1_ := (hb.cell (World.block_lt_of_cell? _ _ (hHeld.2))).trans (hHeld.2)
        refine ⟨_, rfl, ?_⟩
        have n0_ := Aside0.mk (Kd.N_elder' (by (with_reducible repeat (first | apply Kd.N_alloc | apply Kd.N_drewN | apply Kd.N_drew)); exact HO_8.out) (Kd.R_base ho0) hb)
        have n1_ := Aside0.mk (Kd.V_elder' (by (with_reducible repeat (first | apply Kd.V_alloc | apply Kd.V_drewN | apply Kd.V_drew)); exact HL492_0.out) (Kd.R_base ho0) hb)
        have n2_ := Aside0.mk (Kd.R_elder' (by (with_reducible repeat (first | apply Kd.R_alloc | apply Kd.R_drewN | apply Kd.R_drew)); exact HO495.out) (Kd.R_base ho0) hb)
        have n3_ := Aside0.mk (Kd.V_elder' (by (with_reducible repeat (first | apply Kd.V_alloc | apply Kd.V_drewN | apply Kd.V_drew)); exact HL499_0.out) (Kd.R_base ho0) hb)
        have n3HL_ := Aside0.mk (Kd.V_elder' (by (with_reducible repeat (first | apply Kd.V_alloc | apply Kd.V_drewN | apply Kd.V_drew)); exact HL504_0.out) (Kd.R_base ho0) hb)
        have n4_ := Aside0.mk (Kd.R_lower (Kd.R_new' (Kd.R_newM (M := fun k_ => (w.heap.size ≤ k_)) ho0 (below_size (by repeat (first | (with_reducible first | exact HB.out | apply below_alloc | apply pw_below_drewN | apply below_drew1) | exact HB.out))) (fun k_ h_ => h_)) (Kd.R_lt (by (with_reducible repeat (first | apply Kd.R_alloc | apply Kd.R_drewN | apply Kd.R_drew)); exact HO495.out))) (below_size (by repeat (first | (with_reducible first | exact HB.out | apply below_alloc | apply pw_below_drewN | apply below_drew1) | exact HB.out))))
        have n5_ := Aside0.mk (Kd.C_below (by repeat (first | (with_reducible exact HR492_0.out) | (with_reducible refine Kd.C_alloc ?_ _) | (with_reducible refine Kd.C_drewN ?_ _) | (with_reducible refine Kd.C_drew ?_) | exact HR492_0.out)) hb)
        have n6_ := Aside0.mk (Kd.C_below (by repeat (first | (with_reducible exact HR499_0.out) | (with_reducible refine Kd.C_alloc ?_ _) | (with_reducible refine Kd.C_drewN ?_ _) | (with_reducible refine Kd.C_drew ?_) | exact HR499_0.out)) hb)
        have n6HR_ := Aside0.mk (Kd.C_below (by repeat (first | (with_reducible exact HR504_0.out) | (with_reducible refine Kd.C_alloc ?_ _) | (with_reducible refine Kd.C_drewN ?_ _) | (with_reducible refine Kd.C_drew ?_) | exact HR504_0.out)) hb)
        have n7_ := Aside0.mk (below_step (by repeat (first | (with_reducible first | exact HB.out | apply below_alloc | apply pw_below_drewN | apply below_drew1) | exact HB.out)) hb)
        clear HO_8
        clear HL492_0
        clear HO495
        clear HL499_0
        clear HL504_0
        clear HR492_0
        clear HR499_0
        clear HR504_0
        clear HB
        have HO_8 := n0_
        have HL492_0 := n1_
        have HO495 := n2_
        have HL499_0 := n3_
        have HL504_0 := n3HL_
        clear n3HL_
        have HO498 := n4_
        have HR492_0 := n5_
        have HR499_0 := n6_
        have HR504_0 := n6HR_
        clear n6HR_
        have HB := n7_
        clear n0_ n1_ n2_ n3_ n4_ n5_ n6_ n7_
        (try clear hb)
        (try clear hb2)
        (try clear hk)
        (try clear hi)
        (try clear ho0)
        refine hK.out _ _ ⟨HS0_, HS1_⟩ (fun hHeld => ?_)
        clear hK K
        refine norm_ (a' := ?_) ?_ ?_
        rotate_left
        ·show Act.put _ (some 39) _ = _
         simp only [Act.put, List.setIfInBounds_toArray, List.set_cons_zero, List.set_cons_succ, i64_w, i32_w]
         rfl
        refine one_ (i := 5) (N := some 43) #[tt, tt, tt, tt, tt, tt, ff, ff, ff, ff, ff, ff, ff, ff, ff, ff, ff, ff, ff, ff, ff, ff] rfl rfl (one_of HT_.out (by kernel_rfl)) (by decide) (fun K hK => ?_)
        refine goes_ Try.func14 (by kernel_rfl) rfl #[.slice A499_0 (rd_L4 t488 0).length c499_0, .int .i64 1125899906842624] (by rfl) rfl rfl (by (try simp only [List.map_toArray, List.map_cons, List.map_nil]); first | done | rfl | (simp only [List.length_drop, List.length_take]; rfl)) ?_
        with_reducible refine (merge_Visible.calls kj5 _ _ (rd_L4 t488 0) 1125899906842624 t500 _ ?side1 ?side2 A21.out).mono ?_
        (case side1 => repeat (first | exact (by repeat (first | (with_reducible exact HR499_0.out) | (with_reducible refine Kd.C_alloc ?_ _) | (with_reducible refine Kd.C_drewN ?_ _) | (with_reducible refine Kd.C_drew ?_) | exact HR499_0.out)) | (with_reducible refine Kd.C_alloc ?_ _) | (with_reducible refine Kd.C_drewN ?_ _) | (with_reducible refine Kd.C_drew ?_)))
        (case side2 => exact HC499_0.out)
        rintro e w35 ⟨v501, rfl, ho0, hb⟩
        have HS0_ := (hb.cell (World.block_lt_of_cell? _ _ (hHeld.1))).trans (hHeld.1)
        have HS1_ := (hb.cell (World.block_lt_of_cell? _ _ (hHeld.2))).trans (hHeld.2)
        refine ⟨_, rfl, ?_⟩
        have n0_ := Aside0.mk (Kd.N_elder' (by (with_reducible repeat (first | apply Kd.N_alloc | apply Kd.N_drewN | apply Kd.N_drew)); exact HO_8.out) (Kd.R_base ho0) hb)
        have n1_ := Aside0.mk (Kd.V_elder' (by (with_reducible repeat (first | apply Kd.V_alloc | apply Kd.V_drewN | apply Kd.V_drew)); exact HL492_0.out) (Kd.R_base ho0) hb)
        have n2_ := Aside0.mk (Kd.R_elder' (by (with_reducible repeat (first | apply Kd.R_alloc | apply Kd.R_drewN | apply Kd.R_drew)); exact HO495.out) (Kd.R_base ho0) hb)
        have n3_ := Aside0.mk (Kd.V_elder' (by (with_reducible repeat (first | apply Kd.V_alloc | apply Kd.V_drewN | apply Kd.V_drew)); exact HL499_0.out) (Kd.R_base ho0) hb)
        have n3HL_ := Aside0.mk (Kd.V_elder' (by (with_reducible repeat (first | apply Kd.V_alloc | apply Kd.V_drewN | apply Kd.V_drew)); exact HL504_0.out) (Kd.R_base ho0) hb)
        have n4_ := Aside0.mk (Kd.R_elder' (by (with_reducible repeat (first | apply Kd.R_alloc | apply Kd.R_drewN | apply Kd.R_drew)); exact HO498.out) (Kd.R_base ho0) hb)
        have n5_ := Aside0.mk (Kd.R_lower (Kd.R_new' (Kd.R_new' (Kd.R_newM (M := fun k_ => (w.heap.size ≤ k_)) ho0 (below_size (by repeat (first | (with_reducible first | exact HB.out | apply below_alloc | apply pw_below_drewN | apply below_drew1) | exact HB.out))) (fun k_ h_ => h_)) (Kd.R_lt (by (with_reducible repeat (first | apply Kd.R_alloc | apply Kd.R_drewN | apply Kd.R_drew)); exact HO495.out))) (Kd.R_lt (by (with_reducible repeat (first | apply Kd.R_alloc | apply Kd.R_drewN | apply Kd.R_drew)); exact HO498.out))) (below_size (by repeat (first | (with_reducible first | exact HB.out | apply below_alloc | apply pw_below_drewN | apply below_drew1) | exact HB.out))))
        have n6_ := Aside0.mk (Kd.C_below (by repeat (first | (with_reducible exact HR492_0.out) | (with_reducible refine Kd.C_alloc ?_ _) | (with_reducible refine Kd.C_drewN ?_ _) | (with_reducible refine Kd.C_drew ?_) | exact HR492_0.out)) hb)
        have n7_ := Aside0.mk (Kd.C_below (by repeat (first | (with_reducible exact HR499_0.out) | (with_reducible refine Kd.C_alloc ?_ _) | (with_reducible refine Kd.C_drewN ?_ _) | (with_reducible refine Kd.C_drew ?_) | exact HR499_0.out)) hb)
        have n7HR_ := Aside0.mk (Kd.C_below (by repeat (first | (with_reducible exact HR504_0.out) | (with_reducible refine Kd.C_alloc ?_ _) | (with_reducible refine Kd.C_drewN ?_ _) | (with_reducible refine Kd.C_drew ?_) | exact HR504_0.out)) hb)
        have n8_ := Aside0.mk (below_step (by repeat (first | (with_reducible first | exact HB.out | apply below_alloc | apply pw_below_drewN | apply below_drew1) | exact HB.out)) hb)
        clear HO_8
        clear HL492_0
        clear HO495
        clear HL499_0
        clear HL504_0
        clear HO498
        clear HR492_0
        clear HR499_0
        clear HR504_0
        clear HB
        have HO_8 := n0_
        have HL492_0 := n1_
        have HO495 := n2_
        have HL499_0 := n3_
        have HL504_0 := n3HL_
        clear n3HL_
        have HO498 := n4_
        have HO502 := n5_
        have HR492_0 := n6_
        have HR499_0 := n7_
        have HR504_0 := n7HR_
        clear n7HR_
        have HB := n8_
        clear n0_ n1_ n2_ n3_ n4_ n5_ n6_ n7_ n8_
        (try clear hb)
        (try clear hb2)
        (try clear hk)
        (try clear hi)
        (try clear ho0)
        obtain ⟨Ao36, co36, eo36⟩ := Kd.R_slice HO498.out
        (first | subst eo36 | (injection eo36 with f1_ f2_ f3_; have f4_ := f1_.symm; have f5_ := f3_.symm; clear f1_ f2_ f3_; subst f4_; subst f5_))
        obtain ⟨Ao37, co37, eo37⟩ := Kd.R_slice HO502.out
        (first | subst eo37 | (injection eo37 with f1_ f2_ f3_; have f4_ := f1_.symm; have f5_ := f3_.symm; clear f1_ f2_ f3_; subst f4_; subst f5_))
        refine hK.out _ _ ⟨HS0_, HS1_⟩ (fun hHeld => ?_)
        clear hK K
        refine norm_ (a' := ?_) ?_ ?_
        rotate_left
        ·show Act.put _ (some 43) _ = _
         simp only [Act.put, List.setIfInBounds_toArray, List.set_cons_zero, List.set_cons_succ, i64_w, i32_w]
         rfl
        refine one_ (i := 6) (N := some 44) #[tt, tt, tt, tt, tt, tt, tt, ff, ff, ff, ff, ff, ff, ff, ff, ff, ff, ff, ff, ff, ff, ff] rfl rfl (one_of HT_.out (by kernel_rfl)) (by decide) (fun K hK => ?_)
        refine goes_ Try.func13 (by kernel_rfl) rfl #[.slice Ao36 t496.length co36, .slice Ao37 t500.length co37] (by rfl) rfl rfl (by (try simp only [List.map_toArray, List.map_cons, List.map_nil]); first | done | rfl | (simp only [List.length_drop, List.length_take]; rfl)) ?_
        with_reducible refine (moultlaw12_same.calls kj5 _ _ t496 _ _ t500 true _ ?side1 ?side2 ?side3 ?side4 A22.out).mono ?_
        (case side1 => repeat (first | exact (Kd.R_reads' HO498.out).2.2 | (with_reducible refine Kd.C_alloc ?_ _) | (with_reducible refine Kd.C_drewN ?_ _) | (with_reducible refine Kd.C_drew ?_)))
        (case side2 => exact (Kd.R_reads' HO498.out).2.1)
        (case side3 => repeat (first | exact (Kd.R_reads' HO502.out).2.2 | (with_reducible refine Kd.C_alloc ?_ _) | (with_reducible refine Kd.C_drewN ?_ _) | (with_reducible refine Kd.C_drew ?_)))
        (case side4 => exact (Kd.R_reads' HO502.out).2.1)
        rintro e w' ⟨rfl, ⟨nd, rfl⟩⟩
        refine ⟨_, rfl, ?_⟩
        refine hK.out _ _ ⟨hHeld.1, hHeld.2⟩ (fun hHeld => ?_)
        clear hK K
        refine norm_ (a' := ?_) ?_ ?_
        rotate_left
        ·show Act.put _ (some 44) _ = _
         simp only [Act.put, List.setIfInBounds_toArray, List.set_cons_zero, List.set_cons_succ, i64_w, i32_w]
         rfl
        refine pq_ (i := 7) (N := some 45) HT_ #[tt, tt, tt, tt, tt, tt, tt, tt, ff, ff, ff, ff, ff, ff, ff, ff, ff, ff, ff, ff, ff, ff] ?_
        refine pq_ (i := 8) (N := some 46) HT_ #[tt, tt, tt, tt, tt, tt, tt, tt, tt, ff, ff, ff, ff, ff, ff, ff, ff, ff, ff, ff, ff, ff] ?_
        refine pq_ (i := 9) (N := some 47) HT_ #[tt, tt, tt, tt, tt, tt, tt, tt, tt, tt, ff, ff, ff, ff, ff, ff, ff, ff, ff, ff, ff, ff] ?_
        refine pq_ (i := 10) (N := some 48) HT_ #[tt, tt, tt, tt, tt, tt, tt, tt, tt, tt, tt, ff, ff, ff, ff, ff, ff, ff, ff, ff, ff, ff] ?_
        refine pq_ (i := 11) (N := some 49) HT_ #[tt, tt, tt, tt, tt, tt, tt, tt, tt, tt, tt, tt, ff, ff, ff, ff, ff, ff, ff, ff, ff, ff] ?_
        refine pq_ (i := 12) (N := some 50) HT_ #[tt, tt, tt, tt, tt, tt, tt, tt, tt, tt, tt, tt, tt, ff, ff, ff, ff, ff, ff, ff, ff, ff] ?_
        refine take_ (i := 13) (N := some 51) (v := ?_) (a' := ?_) #[tt, tt, tt, tt, tt, tt, tt, tt, tt, tt, tt, tt, tt, tt, ff, ff, ff, ff, ff, ff, ff, ff] rfl rfl (take_ofW HT_.out HW_.out (by kernel_rfl)) (fun _ _ _ h => h) (Or.inl ⟨by rfl, ?_⟩) hHeld ?_ ?_
        rotate_left
        ·rintro w' ⟨s0, s1⟩
         go_simp
         with_reducible rfl
        rotate_left
        ·simp only [Act.put, List.setIfInBounds_toArray, List.set_cons_zero, List.set_cons_succ, i64_w, i32_w]
         rfl
        refine pq_ (i := 14) (N := some 52) HT_ #[tt, tt, tt, tt, tt, tt, tt, tt, tt, tt, tt, tt, tt, tt, tt, ff, ff, ff, ff, ff, ff, ff] ?_
        refine pq_ (i := 15) (N := some 53) HT_ #[tt, tt, tt, tt, tt, tt, tt, tt, tt, tt, tt, tt, tt, tt, tt, tt, ff, ff, ff, ff, ff, ff] ?_
        refine pq_ (i := 16) (N := some 54) HT_ #[tt, tt, tt, tt, tt, tt, tt, tt, tt, tt, tt, tt, tt, tt, tt, tt, tt, ff, ff, ff, ff, ff] ?_
        refine pq_ (i := 17) (N := some 55) HT_ #[tt, tt, tt, tt, tt, tt, tt, tt, tt, tt, tt, tt, tt, tt, tt, tt, tt, tt, ff, ff, ff, ff] ?_
        refine pq_ (i := 18) (N := some 56) HT_ #[tt, tt, tt, tt, tt, tt, tt, tt, tt, tt, tt, tt, tt, tt, tt, tt, tt, tt, tt, ff, ff, ff] ?_
        refine one_ (i := 19) (N := some 57) #[tt, tt, tt, tt, tt, tt, tt, tt, tt, tt, tt, tt, tt, tt, tt, tt, tt, tt, tt, tt, ff, ff] rfl rfl (one_of HT_.out (by kernel_rfl)) (by decide) (fun K hK => ?_)
        refine goes_ Try.func19 (by kernel_rfl) rfl #[.slice Ao33 t493.length co33] (by rfl) rfl rfl (by (try simp only [List.map_toArray, List.map_cons, List.map_nil]); first | done | rfl | (simp only [List.length_drop, List.length_take]; rfl)) ?_
        with_reducible refine (merge_Sorted.calls kj5 _ _ t493 t505 _ ?side1 ?side2 A31.out).mono ?_
        (case side1 => repeat (first | exact (Kd.R_reads' HO495.out).2.2 | (with_reducible refine Kd.C_alloc ?_ _) | (with_reducible refine Kd.C_drewN ?_ _) | (with_reducible refine Kd.C_drew ?_)))
        (case side2 => exact (Kd.R_reads' HO495.out).2.1)
        rintro e w38 ⟨rfl, hb⟩
        have HS0_ := (hb.cell (World.block_lt_of_cell? _ _ (hHeld.1))).trans (hHeld.1)
        have HS1_ := (hb.cell (World.block_lt_of_cell? _ _ (hHeld.2))).trans (hHeld.2)
        refine ⟨_, rfl, ?_⟩
        have n0_ := Aside0.mk (Kd.N_below (by (with_reducible repeat (first | apply Kd.N_alloc | apply Kd.N_drewN | apply Kd.N_drew)); exact HO_8.out) hb)
        have n1_ := Aside0.mk (Kd.V_below (by (with_reducible repeat (first | apply Kd.V_alloc | apply Kd.V_drewN | apply Kd.V_drew)); exact HL492_0.out) hb)
        have n2_ := Aside0.mk (Kd.R_below (by (with_reducible repeat (first | apply Kd.R_alloc | apply Kd.R_drewN | apply Kd.R_drew)); exact HO495.out) hb)
        have n3_ := Aside0.mk (Kd.V_below (by (with_reducible repeat (first | apply Kd.V_alloc | apply Kd.V_drewN | apply Kd.V_drew)); exact HL499_0.out) hb)
        have n3HL_ := Aside0.mk (Kd.V_below (by (with_reducible repeat (first | apply Kd.V_alloc | apply Kd.V_drewN | apply Kd.V_drew)); exact HL504_0.out) hb)
        have n4_ := Aside0.mk (Kd.R_below (by (with_reducible repeat (first | apply Kd.R_alloc | apply Kd.R_drewN | apply Kd.R_drew)); exact HO498.out) hb)
        have n5_ := Aside0.mk (Kd.R_below (by (with_reducible repeat (first | apply Kd.R_alloc | apply Kd.R_drewN | apply Kd.R_drew)); exact HO502.out) hb)
        have n6_ := Aside0.mk (Kd.V_below (by (with_reducible repeat (first | apply Kd.V_alloc | apply Kd.V_drewN | apply Kd.V_drew)); exact HL504_0.out) hb)
        have n7_ := Aside0.mk (Kd.C_below (by repeat (first | (with_reducible exact HR492_0.out) | (with_reducible refine Kd.C_alloc ?_ _) | (with_reducible refine Kd.C_drewN ?_ _) | (with_reducible refine Kd.C_drew ?_) | exact HR492_0.out)) hb)
        have n8_ := Aside0.mk (Kd.C_below (by repeat (first | (with_reducible exact HR499_0.out) | (with_reducible refine Kd.C_alloc ?_ _) | (with_reducible refine Kd.C_drewN ?_ _) | (with_reducible refine Kd.C_drew ?_) | exact HR499_0.out)) hb)
        have n9_ := Aside0.mk (Kd.C_below (by repeat (first | (with_reducible exact HR504_0.out) | (with_reducible refine Kd.C_alloc ?_ _) | (with_reducible refine Kd.C_drewN ?_ _) | (with_reducible refine Kd.C_drew ?_) | exact HR504_0.out)) hb)
        have n10_ := Aside0.mk (below_step (by repeat (first | (with_reducible first | exact HB.out | apply below_alloc | apply pw_below_drewN | apply below_drew1) | exact HB.out)) hb)
        clear HO_8
        clear HL492_0
        clear HO495
        clear HL499_0
        clear HO498
        clear HO502
        clear HL504_0
        clear HR492_0
        clear HR499_0
        clear HR504_0
        clear HB
        have HO_8 := n0_
        have HL492_0 := n1_
        have HO495 := n2_
        have HL499_0 := n3_
        have HO498 := n4_
        have HO502 := n5_
        have HL504_0 := n6_
        have HR492_0 := n7_
        have HR499_0 := n8_
        have HR504_0 := n9_
        have HB := n10_
        clear n0_ n1_ n2_ n3_ n4_ n5_ n6_ n7_ n8_ n9_ n10_
        (try clear hb)
        (try clear hb2)
        (try clear hk)
        (try clear hi)
        refine hK.out _ _ ⟨HS0_, HS1_⟩ (fun hHeld => ?_)
        clear hK K
        refine norm_ (a' := ?_) ?_ ?_
        rotate_left
        ·show Act.put _ (some 57) _ = _
         simp only [Act.put, List.setIfInBounds_toArray, List.set_cons_zero, List.set_cons_succ, i64_w, i32_w]
         rfl
        refine pq_ (i := 20) (N := some 58) HT_ #[tt, tt, tt, tt, tt, tt, tt, tt, tt, tt, tt, tt, tt, tt, tt, tt, tt, tt, tt, tt, tt, ff] ?_
        refine pq_ (i := 21) (N := some 59) HT_ #[tt, tt, tt, tt, tt, tt, tt, tt, tt, tt, tt, tt, tt, tt, tt, tt, tt, tt, tt, tt, tt, tt] ?_
        refine done_ (done_of HT_.out (by kernel_rfl)) ?_
        try go_wp2
        go_meet
        case rel => exact ⟨_, (!t505), (by first | rfl | (simp; done) | (simp [*]; done)), H', ⟨by have := HJ5.out; first | omega | exact Nat.le_refl _⟩, ⟨by (with_reducible repeat (first | apply Kd.N_alloc | apply Kd.N_drewN | apply Kd.N_drew)); exact Kd.N_mono HO_8.out (fun _ hk => ⟨hk.1.1.1, hk.1.1.2⟩)⟩, ⟨by (with_reducible repeat (first | apply Kd.R_alloc | apply Kd.R_drewN | apply Kd.R_drew)); exact Kd.R_mono HO495.out (fun _ hk => hk.1.1.1)⟩, ⟨by repeat (first | (with_reducible exact HR492_0.out) | (with_reducible refine Kd.C_alloc ?_ _) | (with_reducible refine Kd.C_drewN ?_ _) | (with_reducible refine Kd.C_drew ?_) | exact HR492_0.out)⟩, ⟨by repeat (first | (with_reducible first | exact HB.out | apply below_alloc | apply pw_below_drewN | apply below_drew1) | exact HB.out)⟩⟩
      ·replace c23 := Bool.eq_false_iff.mpr c23
       subst c23
       have H1 : (moultlaw12_MergeThins.j1 kj5 l1 a2 t488 t493 true) = some r := by rw [if_neg (show ¬ (false = true) by decide)] at H; exact H
       clear H
       have H := H1
       clear H1
       have H' := Aside0.mk H
       clear H
       try go_wp2
       have n0_ := Aside0.mk (Kd.N_drew HO_8.out)
       have n1_ := Aside0.mk (Kd.V_drew HL492_0.out)
       have n2_ := Aside0.mk (Kd.R_drew HO495.out)
       have n3_ := Aside0.mk (Kd.C_drew HR492_0.out)
       have n4_ := Aside0.mk (below_drew1 HB.out)
       clear HO_8
       clear HL492_0
       clear HO495
       clear HR492_0
       clear HB
       have HO_8 := n0_
       have HL492_0 := n1_
       have HO495 := n2_
       have HR492_0 := n3_
       have HB := n4_
       clear n0_ n1_ n2_ n3_ n4_
       have p499 : 0 ≤ (0 : Int) := (by omega)
       have q499 : 0 < (t488.length : Int) := of_decide_eq_true (by first | (with_reducible assumption) | assumption)
       obtain ⟨ad499, A499_0, c499_0, e499, hx499_0, hl499_0, hi499_0⟩ := at_L4 (Kd.N_reads' HO_8.out).2.2 0 p499 q499
       obtain rfl : ad492 = ad499 := (by injection e499)
       obtain ⟨ce499, hce499, hMe499, hcc499⟩ := Kd.N_get HO_8.out [] 0 p499 (by first | exact q499 | exact of_decide_eq_true (by first | (with_reducible assumption) | assumption) | (have e_ := (Kd.N_reads' HO_8.out).1; omega))
       obtain ⟨ua499_0, uc499_0, rfl, ul499_0, ge499_0⟩ := Kd.FK_slice_open hMe499
       have hv499_0 := hcc499 0 _ rfl
       rw [Nat.add_zero, show ((Kd.slice 36 k36)).sz = 1 from rfl, Nat.mul_one] at hv499_0
       replace hv499_0 := Option.some.inj (hv499_0.symm.trans hx499_0)
       injection hv499_0 with hva_ hvn_ hvc_
       rw [hva_] at ge499_0
       rw [hvc_] at ul499_0
       have HL499_0 := Aside0.mk (show Kd.V k36 36 _ w.heap.size _ _ (rd_L4 t488 0) from Kd.V_mk ul499_0 ge499_0)
       clear hva_ hvn_ hvc_ ge499_0 ul499_0
       clear hcc499 hce499
       have qi499 : (0 < t488.length) = True := eq_true (by omega)
       (try rw [show ((0 : Int)).toNat = 0 from rfl] at hx499_0)
       (try rw [Addr.add_zero'] at hx499_0)
       have HR499_0 := Aside0.mk hi499_0
       have HC499_0 := Aside0.mk hl499_0
       clear hi499_0 hl499_0
       replace p499 := eq_true p499
       replace q499 := eq_true q499
       obtain ⟨Ao40, co40, eo40⟩ := Kd.R_slice HO495.out
       (first | subst eo40 | (injection eo40 with f1_ f2_ f3_; have f4_ := f1_.symm; have f5_ := f3_.symm; clear f1_ f2_ f3_; subst f4_; subst f5_))
       refine start_ (n := 22) (S := fun w' => w'.cell? ad492 = some (.slice A499_0 (rd_L4 t488 0).length c499_0)) (ds := []) #[ff, ff, ff, ff, ff, ff, ff, ff, ff, ff, ff, ff, ff, ff, ff, ff, ff, ff, ff, ff, ff, ff] (by kernel_rfl) rfl rfl (hx499_0) (fun hHeld => ?_); refine with_tabW moultlaw12_MergeThins.tab6 moultlaw12_MergeThins.bits6 (fun HT_ HW_ => ?_)
       generalize w19.drew = w39 at HO_8 HL492_0 HO495 HR492_0 HB HL499_0 HR499_0 hx499_0 hHeld ⊢
       refine pq_ (i := 0) (N := some 38) HT_ #[tt, ff, ff, ff, ff, ff, ff, ff, ff, ff, ff, ff, ff, ff, ff, ff, ff, ff, ff, ff, ff, ff] ?_
       refine pq_ (i := 2) (N := some 40) HT_ #[tt, ff, tt, ff, ff, ff, ff, ff, ff, ff, ff, ff, ff, ff, ff, ff, ff, ff, ff, ff, ff, ff] ?_
       refine pq_ (i := 3) (N := some 41) HT_ #[tt, ff, tt, tt, ff, ff, ff, ff, ff, ff, ff, ff, ff, ff, ff, ff, ff, ff, ff, ff, ff, ff] ?_
       refine take_ (i := 4) (N := some 42) (v := ?_) (a' := ?_) #[tt, ff, tt, tt, tt, ff, ff, ff, ff, ff, ff, ff, ff, ff, ff, ff, ff, ff, ff, ff, ff, ff] rfl rfl (take_ofW HT_.out HW_.out (by kernel_rfl)) (fun _ _ _ h => h) (Or.inl ⟨by rfl, ?_⟩) hHeld ?_ ?_
       rotate_left
       ·intro w' s0
        go_simp
        with_reducible rfl
       rotate_left
       ·simp only [Act.put, List.setIfInBounds_toArray, List.set_cons_zero, List.set_cons_succ, i64_w, i32_w]
        rfl
       refine one_ (i := 1) (N := some 39) #[tt, tt, tt, tt, tt, ff, ff, ff, ff, ff, ff, ff, ff, ff, ff, ff, ff, ff, ff, ff, ff, ff] rfl rfl (one_of HT_.out (by kernel_rfl)) (by decide) (fun K hK => ?_)
       refine goes_ Try.func14 (by kernel_rfl) rfl #[.slice Ao40 t493.length co40, .int .i64 1125899906842624] (by rfl) rfl rfl (by (try simp only [List.map_toArray, List.map_cons, List.map_nil]); first | done | rfl | (simp only [List.length_drop, List.length_take]; rfl)) ?_
       with_reducible refine (merge_Visible.calls kj5 _ _ t493 1125899906842624 t496 _ ?side1 ?side2 A20.out).mono ?_
       (case side1 => repeat (first | exact (Kd.R_reads' HO495.out).2.2 | (with_reducible refine Kd.C_alloc ?_ _) | (with_reducible refine Kd.C_drewN ?_ _) | (with_reducible refine Kd.C_drew ?_)))
       (case side2 => exact (Kd.R_reads' HO495.out).2.1)
       rintro e w41 ⟨v497, rfl, ho0, hb⟩
       have HS0_ := (hb.cell (World.block_lt_of_cell? _ _ (hHeld))).trans (hHeld)
       refine ⟨_, rfl, ?_⟩
       have n0_ := Aside0.mk (Kd.N_elder' (by (with_reducible repeat (first | apply Kd.N_alloc | apply Kd.N_drewN | apply Kd.N_drew)); exact HO_8.out) (Kd.R_base ho0) hb)
       have n1_ := Aside0.mk (Kd.V_elder' (by (with_reducible repeat (first | apply Kd.V_alloc | apply Kd.V_drewN | apply Kd.V_drew)); exact HL492_0.out) (Kd.R_base ho0) hb)
       have n2_ := Aside0.mk (Kd.R_elder' (by (with_reducible repeat (first | apply Kd.R_alloc | apply Kd.R_drewN | apply Kd.R_drew)); exact HO495.out) (Kd.R_base ho0) hb)
       have n3_ := Aside0.mk (Kd.V_elder' (by (with_reducible repeat (first | apply Kd.V_alloc | apply Kd.V_drewN | apply Kd.V_drew)); exact HL499_0.out) (Kd.R_base ho0) hb)
       have n4_ := Aside0.mk (Kd.R_lower (Kd.R_new' (Kd.R_newM (M := fun k_ => (w.heap.size ≤ k_)) ho0 (below_size (by repeat (first | (with_reducible first | exact HB.out | apply below_alloc | apply pw_below_drewN | apply below_drew1) | exact HB.out))) (fun k_ h_ => h_)) (Kd.R_lt (by (with_reducible repeat (first | apply Kd.R_alloc | apply Kd.R_drewN | apply Kd.R_drew)); exact HO495.out))) (below_size (by repeat (first | (with_reducible first | exact HB.out | apply below_alloc | apply pw_below_drewN | apply below_drew1) | exact HB.out))))
       have n5_ := Aside0.mk (Kd.C_below (by repeat (first | (with_reducible exact HR492_0.out) | (with_reducible refine Kd.C_alloc ?_ _) | (with_reducible refine Kd.C_drewN ?_ _) | (with_reducible refine Kd.C_drew ?_) | exact HR492_0.out)) hb)
       have n6_ := Aside0.mk (Kd.C_below (by repeat (first | (with_reducible exact HR499_0.out) | (with_reducible refine Kd.C_alloc ?_ _) | (with_reducible refine Kd.C_drewN ?_ _) | (with_reducible refine Kd.C_drew ?_) | exact HR499_0.out)) hb)
       have n7_ := Aside0.mk (below_step (by repeat (first | (with_reducible first | exact HB.out | apply below_alloc | apply pw_below_drewN | apply below_drew1) | exact HB.out)) hb)
       clear HO_8
       clear HL492_0
       clear HO495
       clear HL499_0
       clear HR492_0
       clear HR499_0
       clear HB
       have HO_8 := n0_
       have HL492_0 := n1_
       have HO495 := n2_
       have HL499_0 := n3_
       have HO498 := n4_
       have HR492_0 := n5_
       have HR499_0 := n6_
       have HB := n7_
       clear n0_ n1_ n2_ n3_ n4_ n5_ n6_ n7_
       (try clear hb)
       (try clear hb2)
       (try clear hk)
       (try clear hi)
       (try clear ho0)
       refine hK.out _ _ (HS0_) (fun hHeld => ?_)
       clear hK K
       refine norm_ (a' := ?_) ?_ ?_
       rotate_left
       ·show Act.put _ (some 39) _ = _
        simp only [Act.put, List.setIfInBounds_toArray, List.set_cons_zero, List.set_cons_succ, i64_w, i32_w]
        rfl
       refine one_ (i := 5) (N := some 43) #[tt, tt, tt, tt, tt, tt, ff, ff, ff, ff, ff, ff, ff, ff, ff, ff, ff, ff, ff, ff, ff, ff] rfl rfl (one_of HT_.out (by kernel_rfl)) (by decide) (fun K hK => ?_)
       refine goes_ Try.func14 (by kernel_rfl) rfl #[.slice A499_0 (rd_L4 t488 0).length c499_0, .int .i64 1125899906842624] (by rfl) rfl rfl (by (try simp only [List.map_toArray, List.map_cons, List.map_nil]); first | done | rfl | (simp only [List.length_drop, List.length_take]; rfl)) ?_
       with_reducible refine (merge_Visible.calls kj5 _ _ (rd_L4 t488 0) 1125899906842624 t500 _ ?side1 ?side2 A21.out).mono ?_
       (case side1 => repeat (first | exact (by repeat (first | (with_reducible exact HR499_0.out) | (with_reducible refine Kd.C_alloc ?_ _) | (with_reducible refine Kd.C_drewN ?_ _) | (with_reducible refine Kd.C_drew ?_) | exact HR499_0.out)) | (with_reducible refine Kd.C_alloc ?_ _) | (with_reducible refine Kd.C_drewN ?_ _) | (with_reducible refine Kd.C_drew ?_)))
       (case side2 => exact HC499_0.out)
       rintro e w42 ⟨v501, rfl, ho0, hb⟩
       have HS0_ := (hb.cell (World.block_lt_of_cell? _ _ (hHeld))).trans (hHeld)
       refine ⟨_, rfl, ?_⟩
       have n0_ := Aside0.mk (Kd.N_elder' (by (with_reducible repeat (first | apply Kd.N_alloc | apply Kd.N_drewN | apply Kd.N_drew)); exact HO_8.out) (Kd.R_base ho0) hb)
       have n1_ := Aside0.mk (Kd.V_elder' (by (with_reducible repeat (first | apply Kd.V_alloc | apply Kd.V_drewN | apply Kd.V_drew)); exact HL492_0.out) (Kd.R_base ho0) hb)
       have n2_ := Aside0.mk (Kd.R_elder' (by (with_reducible repeat (first | apply Kd.R_alloc | apply Kd.R_drewN | apply Kd.R_drew)); exact HO495.out) (Kd.R_base ho0) hb)
       have n3_ := Aside0.mk (Kd.V_elder' (by (with_reducible repeat (first | apply Kd.V_alloc | apply Kd.V_drewN | apply Kd.V_drew)); exact HL499_0.out) (Kd.R_base ho0) hb)
       have n4_ := Aside0.mk (Kd.R_elder' (by (with_reducible repeat (first | apply Kd.R_alloc | apply Kd.R_drewN | apply Kd.R_drew)); exact HO498.out) (Kd.R_base ho0) hb)
       have n5_ := Aside0.mk (Kd.R_lower (Kd.R_new' (Kd.R_new' (Kd.R_newM (M := fun k_ => (w.heap.size ≤ k_)) ho0 (below_size (by repeat (first | (with_reducible first | exact HB.out | apply below_alloc | apply pw_below_drewN | apply below_drew1) | exact HB.out))) (fun k_ h_ => h_)) (Kd.R_lt (by (with_reducible repeat (first | apply Kd.R_alloc | apply Kd.R_drewN | apply Kd.R_drew)); exact HO495.out))) (Kd.R_lt (by (with_reducible repeat (first | apply Kd.R_alloc | apply Kd.R_drewN | apply Kd.R_drew)); exact HO498.out))) (below_size (by repeat (first | (with_reducible first | exact HB.out | apply below_alloc | apply pw_below_drewN | apply below_drew1) | exact HB.out))))
       have n6_ := Aside0.mk (Kd.C_below (by repeat (first | (with_reducible exact HR492_0.out) | (with_reducible refine Kd.C_alloc ?_ _) | (with_reducible refine Kd.C_drewN ?_ _) | (with_reducible refine Kd.C_drew ?_) | exact HR492_0.out)) hb)
       have n7_ := Aside0.mk (Kd.C_below (by repeat (first | (with_reducible exact HR499_0.out) | (with_reducible refine Kd.C_alloc ?_ _) | (with_reducible refine Kd.C_drewN ?_ _) | (with_reducible refine Kd.C_drew ?_) | exact HR499_0.out)) hb)
       have n8_ := Aside0.mk (below_step (by repeat (first | (with_reducible first | exact HB.out | apply below_alloc | apply pw_below_drewN | apply below_drew1) | exact HB.out)) hb)
       clear HO_8
       clear HL492_0
       clear HO495
       clear HL499_0
       clear HO498
       clear HR492_0
       clear HR499_0
       clear HB
       have HO_8 := n0_
       have HL492_0 := n1_
       have HO495 := n2_
       have HL499_0 := n3_
       have HO498 := n4_
       have HO502 := n5_
       have HR492_0 := n6_
       have HR499_0 := n7_
       have HB := n8_
       clear n0_ n1_ n2_ n3_ n4_ n5_ n6_ n7_ n8_
       (try clear hb)
       (try clear hb2)
       (try clear hk)
       (try clear hi)
       (try clear ho0)
       obtain ⟨Ao43, co43, eo43⟩ := Kd.R_slice HO498.out
       (first | subst eo43 | (injection eo43 with f1_ f2_ f3_; have f4_ := f1_.symm; have f5_ := f3_.symm; clear f1_ f2_ f3_; subst f4_; subst f5_))
       obtain ⟨Ao44, co44, eo44⟩ := Kd.R_slice HO502.out
       (first | subst eo44 | (injection eo44 with f1_ f2_ f3_; have f4_ := f1_.symm; have f5_ := f3_.symm; clear f1_ f2_ f3_; subst f4_; subst f5_))
       refine hK.out _ _ (HS0_) (fun hHeld => ?_)
       clear hK K
       refine norm_ (a' := ?_) ?_ ?_
       rotate_left
       ·show Act.put _ (some 43) _ = _
        simp only [Act.put, List.setIfInBounds_toArray, List.set_cons_zero, List.set_cons_succ, i64_w, i32_w]
        rfl
       refine one_ (i := 6) (N := some 44) #[tt, tt, tt, tt, tt, tt, tt, ff, ff, ff, ff, ff, ff, ff, ff, ff, ff, ff, ff, ff, ff, ff] rfl rfl (one_of HT_.out (by kernel_rfl)) (by decide) (fun K hK => ?_)
       refine goes_ Try.func13 (by kernel_rfl) rfl #[.slice Ao43 t496.length co43, .slice Ao44 t500.length co44] (by rfl) rfl rfl (by (try simp only [List.map_toArray, List.map_cons, List.map_nil]); first | done | rfl | (simp only [List.length_drop, List.length_take]; rfl)) ?_
       with_reducible refine (moultlaw12_same.calls kj5 _ _ t496 _ _ t500 false _ ?side1 ?side2 ?side3 ?side4 A22.out).mono ?_
       (case side1 => repeat (first | exact (Kd.R_reads' HO498.out).2.2 | (with_reducible refine Kd.C_alloc ?_ _) | (with_reducible refine Kd.C_drewN ?_ _) | (with_reducible refine Kd.C_drew ?_)))
       (case side2 => exact (Kd.R_reads' HO498.out).2.1)
       (case side3 => repeat (first | exact (Kd.R_reads' HO502.out).2.2 | (with_reducible refine Kd.C_alloc ?_ _) | (with_reducible refine Kd.C_drewN ?_ _) | (with_reducible refine Kd.C_drew ?_)))
       (case side4 => exact (Kd.R_reads' HO502.out).2.1)
       rintro e w' ⟨rfl, ⟨nd, rfl⟩⟩
       refine ⟨_, rfl, ?_⟩
       refine hK.out _ _ (hHeld) (fun hHeld => ?_)
       clear hK K
       refine norm_ (a' := ?_) ?_ ?_
       rotate_left
       ·show Act.put _ (some 44) _ = _
        simp only [Act.put, List.setIfInBounds_toArray, List.set_cons_zero, List.set_cons_succ, i64_w, i32_w]
        rfl
       refine pq_ (i := 7) (N := some 45) HT_ #[tt, tt, tt, tt, tt, tt, tt, tt, ff, ff, ff, ff, ff, ff, ff, ff, ff, ff, ff, ff, ff, ff] ?_
       refine pq_ (i := 8) (N := some 46) HT_ #[tt, tt, tt, tt, tt, tt, tt, tt, tt, ff, ff, ff, ff, ff, ff, ff, ff, ff, ff, ff, ff, ff] ?_
       refine pu_ (i := 9) (N := some 47) HT_ #[tt, tt, tt, tt, tt, tt, tt, tt, tt, tt, ff, ff, ff, ff, ff, ff, ff, ff, ff, ff, ff, ff] ?_
       refine pu_ (i := 10) (N := some 48) HT_ #[tt, tt, tt, tt, tt, tt, tt, tt, tt, tt, tt, ff, ff, ff, ff, ff, ff, ff, ff, ff, ff, ff] ?_
       refine pu_ (i := 11) (N := some 49) HT_ #[tt, tt, tt, tt, tt, tt, tt, tt, tt, tt, tt, tt, ff, ff, ff, ff, ff, ff, ff, ff, ff, ff] ?_
       refine pu_ (i := 12) (N := some 50) HT_ #[tt, tt, tt, tt, tt, tt, tt, tt, tt, tt, tt, tt, tt, ff, ff, ff, ff, ff, ff, ff, ff, ff] ?_
       refine pu_ (i := 13) (N := some 51) HT_ #[tt, tt, tt, tt, tt, tt, tt, tt, tt, tt, tt, tt, tt, tt, ff, ff, ff, ff, ff, ff, ff, ff] ?_
       refine pu_ (i := 14) (N := some 52) HT_ #[tt, tt, tt, tt, tt, tt, tt, tt, tt, tt, tt, tt, tt, tt, tt, ff, ff, ff, ff, ff, ff, ff] ?_
       refine pu_ (i := 15) (N := some 53) HT_ #[tt, tt, tt, tt, tt, tt, tt, tt, tt, tt, tt, tt, tt, tt, tt, tt, ff, ff, ff, ff, ff, ff] ?_
       refine pq_ (i := 16) (N := some 54) HT_ #[tt, tt, tt, tt, tt, tt, tt, tt, tt, tt, tt, tt, tt, tt, tt, tt, tt, ff, ff, ff, ff, ff] ?_
       refine pq_ (i := 17) (N := some 55) HT_ #[tt, tt, tt, tt, tt, tt, tt, tt, tt, tt, tt, tt, tt, tt, tt, tt, tt, tt, ff, ff, ff, ff] ?_
       refine pu_ (i := 18) (N := some 56) HT_ #[tt, tt, tt, tt, tt, tt, tt, tt, tt, tt, tt, tt, tt, tt, tt, tt, tt, tt, tt, ff, ff, ff] ?_
       refine pu_ (i := 19) (N := some 57) HT_ #[tt, tt, tt, tt, tt, tt, tt, tt, tt, tt, tt, tt, tt, tt, tt, tt, tt, tt, tt, tt, ff, ff] ?_
       refine pu_ (i := 20) (N := some 58) HT_ #[tt, tt, tt, tt, tt, tt, tt, tt, tt, tt, tt, tt, tt, tt, tt, tt, tt, tt, tt, tt, tt, ff] ?_
       refine pq_ (i := 21) (N := some 59) HT_ #[tt, tt, tt, tt, tt, tt, tt, tt, tt, tt, tt, tt, tt, tt, tt, tt, tt, tt, tt, tt, tt, tt] ?_
       refine done_ (done_of HT_.out (by kernel_rfl)) ?_
       try go_wp2
       go_meet
       case rel => exact ⟨_, (true), (by first | rfl | (simp; done) | (simp [*]; done)), H', ⟨by have := HJ5.out; first | omega | exact Nat.le_refl _⟩, ⟨by (with_reducible repeat (first | apply Kd.N_alloc | apply Kd.N_drewN | apply Kd.N_drew)); exact Kd.N_mono HO_8.out (fun _ hk => ⟨hk.1.1.1, hk.1.1.2⟩)⟩, ⟨by (with_reducible repeat (first | apply Kd.R_alloc | apply Kd.R_drewN | apply Kd.R_drew)); exact Kd.R_mono HO495.out (fun _ hk => hk.1.1.1)⟩, ⟨by repeat (first | (with_reducible exact HR492_0.out) | (with_reducible refine Kd.C_alloc ?_ _) | (with_reducible refine Kd.C_drewN ?_ _) | (with_reducible refine Kd.C_drew ?_) | exact HR492_0.out)⟩, ⟨by repeat (first | (with_reducible first | exact HB.out | apply below_alloc | apply pw_below_drewN | apply below_drew1) | exact HB.out)⟩⟩
     case rest =>
      clear HC17
      try clear c1
      try clear c2
      try clear p2
      try clear c4
      try clear p4
      try clear q4
      try clear hx4
      try clear qi4
      try clear c5
      try clear p5
      try clear q5
      try clear hx5
      try clear c13
      try clear c14
      try clear c19
      try clear c23
      try clear hx499_0
      try clear hx504_0
      try clear p499
      try clear p504
      try clear q499
      try clear q504
      obtain ⟨kq, x59_16, rfl, HA, HJ16, HO_8, HO_10, HR492_0, HB⟩ := hcut
      cases kq with
      | zero => exact absurd HA.out (by simp [moultlaw12_MergeThins.j1])
      | succ kj16 =>
       have H := HA.out
       clear HA
       simp only [moultlaw12_MergeThins.j1] at H
       by_cases c45 : x59_16 = true
       ·subst c45
        have H1 : (some false) = some r := by rw [if_pos rfl] at H; exact H
        clear H
        have H := H1
        clear H1
        obtain rfl := Option.some.inj H
        go_wp2
        go_ret
        exact ⟨by first | rfl | (simp [errW_none, errW_some] <;> rfl) | (simp [*, errW_none, errW_some] <;> rfl), by repeat (first | (with_reducible first | exact HB.out | apply below_alloc | apply pw_below_drewN | apply below_drew1) | exact HB.out)⟩
       ·replace c45 := Bool.eq_false_iff.mpr c45
        subst c45
        have H1 : (moultlaw12_MergeThins.l0 kj16 l1 a2 t488 t493 0) = some r := by rw [if_neg (show ¬ (false = true) by decide)] at H; exact H
        clear H
        have H := H1
        clear H1
        have H' := Aside0.mk H
        clear H
        go_wp2
        go_loopg [11] kj16 (fun kq v11 w' => ∃ (x11_3 : Int), v11 = .int .i64 x11_3 ∧ Aside0 (moultlaw12_MergeThins.l0 kq l1 a2 t488 t493 x11_3 = some r) ∧ Aside0 (kq ≤ kj16) ∧ Aside0 (Kd.N (Kd.slice 36 k36) 27 w' w.heap.size (fun k_ => (P0_ k_ ∨ w.heap.size ≤ k_) ∧ some k_ ≠ (v494 : Value).ownBlock) (.slice (some ad492) t488.length co18) t488) ∧ Aside0 (Kd.R k36 36 w' w.heap.size (fun k_ => (w.heap.size ≤ k_)) v494 t493) ∧ Aside0 (Kd.C k36 w' A492_0 (rd_L4 t488 0).length (rd_L4 t488 0)) ∧ Aside0 (Below w.heap.size w w'))
        case atStart => exact ⟨(0), (by first | rfl | (simp; done) | (simp [*]; done)), H', ⟨Nat.le_refl _⟩, ⟨by (with_reducible repeat (first | apply Kd.N_alloc | apply Kd.N_drewN | apply Kd.N_drew)); exact HO_8.out⟩, ⟨by (with_reducible repeat (first | apply Kd.R_alloc | apply Kd.R_drewN | apply Kd.R_drew)); exact HO_10.out⟩, ⟨by repeat (first | (with_reducible exact HR492_0.out) | (with_reducible refine Kd.C_alloc ?_ _) | (with_reducible refine Kd.C_drewN ?_ _) | (with_reducible refine Kd.C_drew ?_) | exact HR492_0.out)⟩, ⟨by repeat (first | (with_reducible first | exact HB.out | apply below_alloc | apply pw_below_drewN | apply below_drew1) | exact HB.out)⟩⟩
        case round =>
         clear H'
         try clear c1
         try clear c2
         try clear p2
         try clear c4
         try clear p4
         try clear q4
         try clear hx4
         try clear qi4
         try clear c5
         try clear p5
         try clear q5
         try clear hx5
         try clear c13
         try clear c14
         try clear c19
         try clear c23
         try clear c45
         try clear hx499_0
         try clear hx504_0
         try clear p2
         try clear p4
         try clear p499
         try clear p5
         try clear p504
         try clear q4
         try clear q499
         try clear q5
         try clear q504
         obtain ⟨x11_3, rfl, HA, HK3, HO_8, HO_10, HR492_0, HB⟩ := hrel
         cases gk with
         | zero => exact absurd HA.out (by simp [moultlaw12_MergeThins.l0])
         | succ k3 =>
          have H := HA.out
          clear HA
          simp only [moultlaw12_MergeThins.l0] at H
          by_cases c46 : x11_3 < (t493.length : Int)
          ·rw [if_pos c46] at H
           have c46b0 : decide (x11_3 < (t493.length : Int)) = true := decide_eq_true c46
           clear c46
           by_cases c47 : 0 ≤ x11_3
           ·rw [if_pos c47] at H
            have c47b0 : decide (0 ≤ x11_3) = true := decide_eq_true c47
            clear c47
            replace H := Option.bind_eq_some_iff.mp H
            obtain ⟨t507, A480, H⟩ := H
            replace H : (if t507 = true then (moultlaw12_MergeThins.l0 k3 l1 a2 t488 t493 (wrap64 (x11_3 + 1))) else (some false)) = some r := H
            have A48 := Aside0.mk A480
            clear A480
            by_cases c49 : t507 = true
            ·subst c49
             have H1 : (moultlaw12_MergeThins.l0 k3 l1 a2 t488 t493 (wrap64 (x11_3 + 1))) = some r := by rw [if_pos rfl] at H; exact H
             clear H
             have H := H1
             clear H1
             have H' := Aside0.mk H
             clear H
             obtain ⟨Ao50, co50, eo50⟩ := Kd.R_slice HO_10.out
             subst eo50
             have p506 : 0 ≤ (x11_3 : Int) := of_decide_eq_true (by first | (with_reducible assumption) | assumption)
             have q506 : x11_3 < (t493.length : Int) := of_decide_eq_true (by first | (with_reducible assumption) | assumption)
             obtain ⟨ad506, e506, hx506_0, hx506_1, hx506_2, hx506_3⟩ := at_T36 (Kd.R_reads' HO_10.out).2.2 x11_3 p506 q506
             cases e506
             replace p506 := eq_true p506
             replace q506 := eq_true q506
             go_wp2_with (first | ((with_reducible refine gate_callee (f := 21) rfl ?_); refine goesL_ (some 71) rfl rfl Try.func21 (by kernel_rfl) rfl #[.slice (some ad492) t488.length co18, .agg #[.string ((rd_T36 t493 x11_3).f0), .int .i64 ((rd_T36 t493 x11_3).f1), .bool ((rd_T36 t493 x11_3).f2), .string ((rd_T36 t493 x11_3).f3)]] rfl (by (try simp only [List.map_toArray, List.map_cons, List.map_nil]); first | done | rfl | (simp only [List.length_drop, List.length_take]; rfl)) ?_; (with_reducible refine (moultlaw12_has.calls k3 _ _ t488 ((rd_T36 t493 x11_3).f0) ((rd_T36 t493 x11_3).f1) ((rd_T36 t493 x11_3).f2) ((rd_T36 t493 x11_3).f3) true _ ?side1 ?side2 A48.out).mono ?_); (case side1 => repeat (first | exact (Kd.N_reads' HO_8.out).2.2 | (with_reducible refine Kd.C_alloc ?_ _) | (with_reducible refine Kd.C_drewN ?_ _) | (with_reducible refine Kd.C_drew ?_))); (case side2 => exact (Kd.N_reads' HO_8.out).2.1); rintro e w51 ⟨rfl, hb⟩; refine ⟨_, rfl, ?_⟩; have n0_ := Aside0.mk (Kd.N_below (by (with_reducible repeat (first | apply Kd.N_alloc | apply Kd.N_drewN | apply Kd.N_drew)); exact HO_8.out) hb); have n1_ := Aside0.mk (Kd.R_below (by (with_reducible repeat (first | apply Kd.R_alloc | apply Kd.R_drewN | apply Kd.R_drew)); exact HO_10.out) hb); have n2_ := Aside0.mk (Kd.C_below (by repeat (first | (with_reducible exact HR492_0.out) | (with_reducible refine Kd.C_alloc ?_ _) | (with_reducible refine Kd.C_drewN ?_ _) | (with_reducible refine Kd.C_drew ?_) | exact HR492_0.out)) hb); have n3_ := Aside0.mk (below_step (by repeat (first | (with_reducible first | exact HB.out | apply below_alloc | apply pw_below_drewN | apply below_drew1) | exact HB.out)) hb); clear HO_8; clear HO_10; clear HR492_0; clear HB; have HO_8 := n0_; have HO_10 := n1_; have HR492_0 := n2_; have HB := n3_; clear n0_ n1_ n2_ n3_; (try clear hb); (try clear hb2); (try clear hk); (try clear hi)))
             go_roundg k3
             case measure => have := HJ5.out; have := HJ16.out; have := HK3.out; omega
             case rel => exact ⟨(wrap64 (x11_3 + 1)), (by first | rfl | (simp; done) | (simp [*]; done)), H', ⟨by have := HJ5.out; have := HJ16.out; have := HK3.out; omega⟩, ⟨by (with_reducible repeat (first | apply Kd.N_alloc | apply Kd.N_drewN | apply Kd.N_drew)); exact HO_8.out⟩, ⟨by (with_reducible repeat (first | apply Kd.R_alloc | apply Kd.R_drewN | apply Kd.R_drew)); exact HO_10.out⟩, ⟨by repeat (first | (with_reducible exact HR492_0.out) | (with_reducible refine Kd.C_alloc ?_ _) | (with_reducible refine Kd.C_drewN ?_ _) | (with_reducible refine Kd.C_drew ?_) | exact HR492_0.out)⟩, ⟨by repeat (first | (with_reducible first | exact HB.out | apply below_alloc | apply pw_below_drewN | apply below_drew1) | exact HB.out)⟩⟩
            ·replace c49 := Bool.eq_false_iff.mpr c49
             subst c49
             have H1 : (some false) = some r := by rw [if_neg (show ¬ (false = true) by decide)] at H; exact H
             clear H
             have H := H1
             clear H1
             obtain rfl := Option.some.inj H
             obtain ⟨Ao52, co52, eo52⟩ := Kd.R_slice HO_10.out
             subst eo52
             have p506 : 0 ≤ (x11_3 : Int) := of_decide_eq_true (by first | (with_reducible assumption) | assumption)
             have q506 : x11_3 < (t493.length : Int) := of_decide_eq_true (by first | (with_reducible assumption) | assumption)
             obtain ⟨ad506, e506, hx506_0, hx506_1, hx506_2, hx506_3⟩ := at_T36 (Kd.R_reads' HO_10.out).2.2 x11_3 p506 q506
             cases e506
             replace p506 := eq_true p506
             replace q506 := eq_true q506
             go_wp2_with (first | ((with_reducible refine gate_callee (f := 21) rfl ?_); refine goesL_ (some 71) rfl rfl Try.func21 (by kernel_rfl) rfl #[.slice (some ad492) t488.length co18, .agg #[.string ((rd_T36 t493 x11_3).f0), .int .i64 ((rd_T36 t493 x11_3).f1), .bool ((rd_T36 t493 x11_3).f2), .string ((rd_T36 t493 x11_3).f3)]] rfl (by (try simp only [List.map_toArray, List.map_cons, List.map_nil]); first | done | rfl | (simp only [List.length_drop, List.length_take]; rfl)) ?_; (with_reducible refine (moultlaw12_has.calls k3 _ _ t488 ((rd_T36 t493 x11_3).f0) ((rd_T36 t493 x11_3).f1) ((rd_T36 t493 x11_3).f2) ((rd_T36 t493 x11_3).f3) false _ ?side1 ?side2 A48.out).mono ?_); (case side1 => repeat (first | exact (Kd.N_reads' HO_8.out).2.2 | (with_reducible refine Kd.C_alloc ?_ _) | (with_reducible refine Kd.C_drewN ?_ _) | (with_reducible refine Kd.C_drew ?_))); (case side2 => exact (Kd.N_reads' HO_8.out).2.1); rintro e w53 ⟨rfl, hb⟩; refine ⟨_, rfl, ?_⟩; have n0_ := Aside0.mk (Kd.N_below (by (with_reducible repeat (first | apply Kd.N_alloc | apply Kd.N_drewN | apply Kd.N_drew)); exact HO_8.out) hb); have n1_ := Aside0.mk (Kd.R_below (by (with_reducible repeat (first | apply Kd.R_alloc | apply Kd.R_drewN | apply Kd.R_drew)); exact HO_10.out) hb); have n2_ := Aside0.mk (Kd.C_below (by repeat (first | (with_reducible exact HR492_0.out) | (with_reducible refine Kd.C_alloc ?_ _) | (with_reducible refine Kd.C_drewN ?_ _) | (with_reducible refine Kd.C_drew ?_) | exact HR492_0.out)) hb); have n3_ := Aside0.mk (below_step (by repeat (first | (with_reducible first | exact HB.out | apply below_alloc | apply pw_below_drewN | apply below_drew1) | exact HB.out)) hb); clear HO_8; clear HO_10; clear HR492_0; clear HB; have HO_8 := n0_; have HO_10 := n1_; have HR492_0 := n2_; have HB := n3_; clear n0_ n1_ n2_ n3_; (try clear hb); (try clear hb2); (try clear hk); (try clear hi)))
             go_ret
             exact ⟨by first | rfl | (simp [errW_none, errW_some] <;> rfl) | (simp [*, errW_none, errW_some] <;> rfl), by repeat (first | (with_reducible first | exact HB.out | apply below_alloc | apply pw_below_drewN | apply below_drew1) | exact HB.out)⟩
           ·rw [if_neg c47] at H
            exact absurd H (by simp)
          ·rw [if_neg c46] at H
           have c46b0 : decide (x11_3 < (t493.length : Int)) = false := decide_eq_false c46
           clear c46
           have H' := Aside0.mk H
           clear H
           obtain ⟨Ao54, co54, eo54⟩ := Kd.R_slice HO_10.out
           subst eo54
           go_wp2
           go_loopg [12] k3 (fun kq v12 w' => ∃ (x12_4 : Int), v12 = .int .i64 x12_4 ∧ Aside0 (moultlaw12_MergeThins.l1 kq l1 a2 t488 t493 x12_4 = some r) ∧ Aside0 (kq ≤ k3) ∧ Aside0 (Kd.N (Kd.slice 36 k36) 27 w' w.heap.size (fun k_ => (P0_ k_ ∨ w.heap.size ≤ k_) ∧ some k_ ≠ ((.slice Ao54 t493.length co54) : Value).ownBlock) (.slice (some ad492) t488.length co18) t488) ∧ Aside0 (Kd.R k36 36 w' w.heap.size (fun k_ => (w.heap.size ≤ k_)) (.slice Ao54 t493.length co54) t493) ∧ Aside0 (Kd.C k36 w' A492_0 (rd_L4 t488 0).length (rd_L4 t488 0)) ∧ Aside0 (Below w.heap.size w w'))
           case atStart => exact ⟨(0), (by first | rfl | (simp; done) | (simp [*]; done)), H', ⟨Nat.le_refl _⟩, ⟨by (with_reducible repeat (first | apply Kd.N_alloc | apply Kd.N_drewN | apply Kd.N_drew)); exact HO_8.out⟩, ⟨by (with_reducible repeat (first | apply Kd.R_alloc | apply Kd.R_drewN | apply Kd.R_drew)); exact HO_10.out⟩, ⟨by repeat (first | (with_reducible exact HR492_0.out) | (with_reducible refine Kd.C_alloc ?_ _) | (with_reducible refine Kd.C_drewN ?_ _) | (with_reducible refine Kd.C_drew ?_) | exact HR492_0.out)⟩, ⟨by repeat (first | (with_reducible first | exact HB.out | apply below_alloc | apply pw_below_drewN | apply below_drew1) | exact HB.out)⟩⟩
           case round =>
            clear H'
            try clear c1
            try clear c2
            try clear p2
            try clear c4
            try clear p4
            try clear q4
            try clear hx4
            try clear qi4
            try clear c5
            try clear p5
            try clear q5
            try clear hx5
            try clear p6
            try clear c13
            try clear c14
            try clear c19
            try clear c21
            try clear c23
            try clear c45
            try clear c46
            try clear c46b0
            try clear c47
            try clear c47b0
            try clear c49
            try clear p49
            try clear q49
            try clear hx49
            try clear qi49
            try clear p50
            try clear q50
            try clear hx50
            try clear hx499_0
            try clear hx504_0
            try clear hx506_0
            try clear hx506_1
            try clear hx506_2
            try clear hx506_3
            try clear p2
            try clear p4
            try clear p499
            try clear p5
            try clear p504
            try clear p506
            try clear q4
            try clear q499
            try clear q5
            try clear q504
            try clear q506
            obtain ⟨x12_4, rfl, HA, HK4, HO_8, HO_10, HR492_0, HB⟩ := hrel
            cases gk with
            | zero => exact absurd HA.out (by simp [moultlaw12_MergeThins.l1])
            | succ k4 =>
             have H := HA.out
             clear HA
             simp only [moultlaw12_MergeThins.l1] at H
             by_cases c55 : x12_4 < (l1.length : Int)
             ·rw [if_pos c55] at H
              have c55b0 : decide (x12_4 < (l1.length : Int)) = true := decide_eq_true c55
              clear c55
              by_cases c56 : 0 ≤ x12_4
              ·rw [if_pos c56] at H
               have c56b0 : decide (0 ≤ x12_4) = true := decide_eq_true c56
               clear c56
               replace H := Option.bind_eq_some_iff.mp H
               obtain ⟨t516, A570, H⟩ := H
               replace H : (if 0 < (t488.length : Int) then ((merge_Visible.f k4 (rd_L4 t488 0) (rd l1 x12_4)).bind fun t521 => ((moultlaw12_same.f k4 t516 t521).bind fun t524 => (if t524 = true then (moultlaw12_MergeThins.l1 k4 l1 a2 t488 t493 (wrap64 (x12_4 + 1))) else (some false)))) else (none)) = some r := H
               have A57 := Aside0.mk A570
               clear A570
               by_cases c58 : 0 < (t488.length : Int)
               ·rw [if_pos c58] at H
                have c58b0 : decide (0 < (t488.length : Int)) = true := decide_eq_true c58
                have c58b1 : decide (0 < t488.length) = true := decide_eq_true (by omega)
                clear c58
                replace H := Option.bind_eq_some_iff.mp H
                obtain ⟨t521, A590, H⟩ := H
                replace H : ((moultlaw12_same.f k4 t516 t521).bind fun t524 => (if t524 = true then (moultlaw12_MergeThins.l1 k4 l1 a2 t488 t493 (wrap64 (x12_4 + 1))) else (some false))) = some r := H
                have A59 := Aside0.mk A590
                clear A590
                replace H := Option.bind_eq_some_iff.mp H
                obtain ⟨t524, A600, H⟩ := H
                replace H : (if t524 = true then (moultlaw12_MergeThins.l1 k4 l1 a2 t488 t493 (wrap64 (x12_4 + 1))) else (some false)) = some r := H
                have A60 := Aside0.mk A600
                clear A600
                by_cases c61 : t524 = true
                ·subst c61
                 have H1 : (moultlaw12_MergeThins.l1 k4 l1 a2 t488 t493 (wrap64 (x12_4 + 1))) = some r := by rw [if_pos rfl] at H; exact H
                 clear H
                 have H := H1
                 clear H1
                 have H' := Aside0.mk H
                 clear H
                 try go_wp2
                 have n0_ := Aside0.mk (Kd.N_drew HO_8.out)
                 have n1_ := Aside0.mk (Kd.R_drew HO_10.out)
                 have n2_ := Aside0.mk (Kd.C_drew HR492_0.out)
                 have n3_ := Aside0.mk (below_drew1 HB.out)
                 clear HO_8
                 clear HO_10
                 clear HR492_0
                 clear HB
                 have HO_8 := n0_
                 have HO_10 := n1_
                 have HR492_0 := n2_
                 have HB := n3_
                 clear n0_ n1_ n2_ n3_
                 have p515 : 0 ≤ (x12_4 : Int) := of_decide_eq_true (by first | (with_reducible assumption) | assumption)
                 have q515 : x12_4 < (l1.length : Int) := of_decide_eq_true (by first | (with_reducible assumption) | assumption)
                 obtain ⟨ad515, e515, hx515_0⟩ := Kd.at_int HR1.out x12_4 p515 q515
                 have hw515_0 := hx515_0
                 cases e515
                 replace hx515_0 := (HB.out.cell (World.block_lt_of_cell? w _ hx515_0)).trans hx515_0
                 replace p515 := eq_true p515
                 replace q515 := eq_true q515
                 have p519 : 0 ≤ (0 : Int) := (by omega)
                 have q519 : 0 < (t488.length : Int) := of_decide_eq_true (by first | (with_reducible assumption) | assumption)
                 obtain ⟨ad519, A519_0, c519_0, e519, hx519_0, hl519_0, hi519_0⟩ := at_L4 (Kd.N_reads' HO_8.out).2.2 0 p519 q519
                 obtain rfl : ad492 = ad519 := (by injection e519)
                 obtain ⟨ce519, hce519, hMe519, hcc519⟩ := Kd.N_get HO_8.out [] 0 p519 (by first | exact q519 | exact of_decide_eq_true (by first | (with_reducible assumption) | assumption) | (have e_ := (Kd.N_reads' HO_8.out).1; omega))
                 obtain ⟨ua519_0, uc519_0, rfl, ul519_0, ge519_0⟩ := Kd.FK_slice_open hMe519
                 have hv519_0 := hcc519 0 _ rfl
                 rw [Nat.add_zero, show ((Kd.slice 36 k36)).sz = 1 from rfl, Nat.mul_one] at hv519_0
                 replace hv519_0 := Option.some.inj (hv519_0.symm.trans hx519_0)
                 injection hv519_0 with hva_ hvn_ hvc_
                 rw [hva_] at ge519_0
                 rw [hvc_] at ul519_0
                 have HL519_0 := Aside0.mk (show Kd.V k36 36 _ w.heap.size _ _ (rd_L4 t488 0) from Kd.V_mk ul519_0 ge519_0)
                 clear hva_ hvn_ hvc_ ge519_0 ul519_0
                 clear hcc519 hce519
                 have qi519 : (0 < t488.length) = True := eq_true (by omega)
                 (try rw [show ((0 : Int)).toNat = 0 from rfl] at hx519_0)
                 (try rw [Addr.add_zero'] at hx519_0)
                 have HR519_0 := Aside0.mk hi519_0
                 have HC519_0 := Aside0.mk hl519_0
                 clear hi519_0 hl519_0
                 replace p519 := eq_true p519
                 replace q519 := eq_true q519
                 have p520 : 0 ≤ (x12_4 : Int) := of_decide_eq_true (by first | (with_reducible assumption) | assumption)
                 have q520 : x12_4 < (l1.length : Int) := of_decide_eq_true (by first | (with_reducible assumption) | assumption)
                 obtain ⟨ad520, e520, hx520_0⟩ := Kd.at_int HR1.out x12_4 p520 q520
                 have hw520_0 := hx520_0
                 obtain rfl : ad515 = ad520 := (by injection e520)
                 replace hx520_0 := (HB.out.cell (World.block_lt_of_cell? w _ hx520_0)).trans hx520_0
                 replace p520 := eq_true p520
                 replace q520 := eq_true q520
                 refine start_ (n := 16) (S := fun w' => w'.cell? (ad515.add (x12_4).toNat) = some (.int .i64 (rd l1 x12_4)) ∧ w'.cell? ad492 = some (.slice A519_0 (rd_L4 t488 0).length c519_0) ∧ w'.cell? (ad515.add (x12_4).toNat) = some (.int .i64 (rd l1 x12_4))) (ds := []) #[ff, ff, ff, ff, ff, ff, ff, ff, ff, ff, ff, ff, ff, ff, ff, ff] (by kernel_rfl) rfl rfl ⟨((HB.out.cell (World.block_lt_of_cell? w _ hw515_0)).trans hw515_0), hx519_0, ((HB.out.cell (World.block_lt_of_cell? w _ hw520_0)).trans hw520_0)⟩ (fun hHeld => ?_); refine with_tabW moultlaw12_MergeThins.tab16 moultlaw12_MergeThins.bits16 (fun HT_ HW_ => ?_)
                 generalize wr.drew = w62 at HO_8 HO_10 HR492_0 HB HL519_0 HR519_0 hx515_0 hx519_0 hx520_0 hHeld ⊢
                 refine pq_ (i := 0) (N := some 79) HT_ #[tt, ff, ff, ff, ff, ff, ff, ff, ff, ff, ff, ff, ff, ff, ff, ff] ?_
                 refine pq_ (i := 1) (N := some 80) HT_ #[tt, tt, ff, ff, ff, ff, ff, ff, ff, ff, ff, ff, ff, ff, ff, ff] ?_
                 refine pq_ (i := 2) (N := some 81) HT_ #[tt, tt, tt, ff, ff, ff, ff, ff, ff, ff, ff, ff, ff, ff, ff, ff] ?_
                 refine pq_ (i := 3) (N := some 82) HT_ #[tt, tt, tt, tt, ff, ff, ff, ff, ff, ff, ff, ff, ff, ff, ff, ff] ?_
                 refine pq_ (i := 6) (N := some 85) HT_ #[tt, tt, tt, tt, ff, ff, tt, ff, ff, ff, ff, ff, ff, ff, ff, ff] ?_
                 refine pq_ (i := 7) (N := some 86) HT_ #[tt, tt, tt, tt, ff, ff, tt, tt, ff, ff, ff, ff, ff, ff, ff, ff] ?_
                 refine pq_ (i := 9) (N := some 88) HT_ #[tt, tt, tt, tt, ff, ff, tt, tt, ff, tt, ff, ff, ff, ff, ff, ff] ?_
                 refine pq_ (i := 10) (N := some 89) HT_ #[tt, tt, tt, tt, ff, ff, tt, tt, ff, tt, tt, ff, ff, ff, ff, ff] ?_
                 refine pq_ (i := 11) (N := some 90) HT_ #[tt, tt, tt, tt, ff, ff, tt, tt, ff, tt, tt, tt, ff, ff, ff, ff] ?_
                 refine take_ (i := 4) (N := some 83) (v := ?_) (a' := ?_) #[tt, tt, tt, tt, tt, ff, tt, tt, ff, tt, tt, tt, ff, ff, ff, ff] rfl rfl (take_ofW HT_.out HW_.out (by kernel_rfl)) (fun _ _ _ h => h) (Or.inl ⟨by rfl, ?_⟩) hHeld ?_ ?_
                 rotate_left
                 ·rintro w' ⟨s0, s1, s2⟩
                  go_simp
                  with_reducible rfl
                 rotate_left
                 ·simp only [Act.put, List.setIfInBounds_toArray, List.set_cons_zero, List.set_cons_succ, i64_w, i32_w]
                  rfl
                 refine take_ (i := 8) (N := some 87) (v := ?_) (a' := ?_) #[tt, tt, tt, tt, tt, ff, tt, tt, tt, tt, tt, tt, ff, ff, ff, ff] rfl rfl (take_ofW HT_.out HW_.out (by kernel_rfl)) (fun _ _ _ h => h) (Or.inl ⟨by rfl, ?_⟩) hHeld ?_ ?_
                 rotate_left
                 ·rintro w' ⟨s0, s1, s2⟩
                  go_simp
                  with_reducible rfl
                 rotate_left
                 ·simp only [Act.put, List.setIfInBounds_toArray, List.set_cons_zero, List.set_cons_succ, i64_w, i32_w]
                  rfl
                 refine take_ (i := 12) (N := some 91) (v := ?_) (a' := ?_) #[tt, tt, tt, tt, tt, ff, tt, tt, tt, tt, tt, tt, tt, ff, ff, ff] rfl rfl (take_ofW HT_.out HW_.out (by kernel_rfl)) (fun _ _ _ h => h) (Or.inl ⟨by rfl, ?_⟩) hHeld ?_ ?_
                 rotate_left
                 ·rintro w' ⟨s0, s1, s2⟩
                  go_simp
                  with_reducible rfl
                 rotate_left
                 ·simp only [Act.put, List.setIfInBounds_toArray, List.set_cons_zero, List.set_cons_succ, i64_w, i32_w]
                  rfl
                 refine one_ (i := 5) (N := some 84) #[tt, tt, tt, tt, tt, tt, tt, tt, tt, tt, tt, tt, tt, ff, ff, ff] rfl rfl (one_of HT_.out (by kernel_rfl)) (by decide) (fun K hK => ?_)
                 refine goes_ Try.func14 (by kernel_rfl) rfl #[.slice Ao54 t493.length co54, .int .i64 (rd l1 x12_4)] (by rfl) rfl rfl (by (try simp only [List.map_toArray, List.map_cons, List.map_nil]); first | done | rfl | (simp only [List.length_drop, List.length_take]; rfl)) ?_
                 with_reducible refine (merge_Visible.calls k4 _ _ t493 (rd l1 x12_4) t516 _ ?side1 ?side2 A57.out).mono ?_
                 (case side1 => repeat (first | exact (Kd.R_reads' HO_10.out).2.2 | (with_reducible refine Kd.C_alloc ?_ _) | (with_reducible refine Kd.C_drewN ?_ _) | (with_reducible refine Kd.C_drew ?_)))
                 (case side2 => exact (Kd.R_reads' HO_10.out).2.1)
                 rintro e w63 ⟨v517, rfl, ho0, hb⟩
                 have HS1_ := (hb.cell (World.block_lt_of_cell? _ _ (hHeld.2.1))).trans (hHeld.2.1)
                 refine ⟨_, rfl, ?_⟩
                 have n0_ := Aside0.mk (Kd.N_elder' (by (with_reducible repeat (first | apply Kd.N_alloc | apply Kd.N_drewN | apply Kd.N_drew)); exact HO_8.out) (Kd.R_base ho0) hb)
                 have n1_ := Aside0.mk (Kd.R_elder' (by (with_reducible repeat (first | apply Kd.R_alloc | apply Kd.R_drewN | apply Kd.R_drew)); exact HO_10.out) (Kd.R_base ho0) hb)
                 have n2_ := Aside0.mk (Kd.V_elder' (by (with_reducible repeat (first | apply Kd.V_alloc | apply Kd.V_drewN | apply Kd.V_drew)); exact HL519_0.out) (Kd.R_base ho0) hb)
                 have n3_ := Aside0.mk (Kd.R_lower (Kd.R_new' (Kd.R_newM (M := fun k_ => (w.heap.size ≤ k_)) ho0 (below_size (by repeat (first | (with_reducible first | exact HB.out | apply below_alloc | apply pw_below_drewN | apply below_drew1) | exact HB.out))) (fun k_ h_ => h_)) (Kd.R_lt (by (with_reducible repeat (first | apply Kd.R_alloc | apply Kd.R_drewN | apply Kd.R_drew)); exact HO_10.out))) (below_size (by repeat (first | (with_reducible first | exact HB.out | apply below_alloc | apply pw_below_drewN | apply below_drew1) | exact HB.out))))
                 have n4_ := Aside0.mk (Kd.C_below (by repeat (first | (with_reducible exact HR492_0.out) | (with_reducible refine Kd.C_alloc ?_ _) | (with_reducible refine Kd.C_drewN ?_ _) | (with_reducible refine Kd.C_drew ?_) | exact HR492_0.out)) hb)
                 have n5_ := Aside0.mk (Kd.C_below (by repeat (first | (with_reducible exact HR519_0.out) | (with_reducible refine Kd.C_alloc ?_ _) | (with_reducible refine Kd.C_drewN ?_ _) | (with_reducible refine Kd.C_drew ?_) | exact HR519_0.out)) hb)
                 have n6_ := Aside0.mk (below_step (by repeat (first | (with_reducible first | exact HB.out | apply below_alloc | apply pw_below_drewN | apply below_drew1) | exact HB.out)) hb)
                 clear HO_8
                 clear HO_10
                 clear HL519_0
                 clear HR492_0
                 clear HR519_0
                 clear HB
                 have HO_8 := n0_
                 have HO_10 := n1_
                 have HL519_0 := n2_
                 have HO518 := n3_
                 have HR492_0 := n4_
                 have HR519_0 := n5_
                 have HB := n6_
                 clear n0_ n1_ n2_ n3_ n4_ n5_ n6_
                 (try clear hb)
                 (try clear hb2)
                 (try clear hk)
                 (try clear hi)
                 (try clear ho0)
                 refine hK.out _ _ ⟨((HB.out.cell (World.block_lt_of_cell? w _ hw515_0)).trans hw515_0), HS1_, ((HB.out.cell (World.block_lt_of_cell? w _ hw520_0)).trans hw520_0)⟩ (fun hHeld => ?_)
                 clear hK K
                 refine norm_ (a' := ?_) ?_ ?_
                 rotate_left
                 ·show Act.put _ (some 84) _ = _
                  simp only [Act.put, List.setIfInBounds_toArray, List.set_cons_zero, List.set_cons_succ, i64_w, i32_w]
                  rfl
                 refine one_ (i := 13) (N := some 92) #[tt, tt, tt, tt, tt, tt, tt, tt, tt, tt, tt, tt, tt, tt, ff, ff] rfl rfl (one_of HT_.out (by kernel_rfl)) (by decide) (fun K hK => ?_)
                 refine goes_ Try.func14 (by kernel_rfl) rfl #[.slice A519_0 (rd_L4 t488 0).length c519_0, .int .i64 (rd l1 x12_4)] (by rfl) rfl rfl (by (try simp only [List.map_toArray, List.map_cons, List.map_nil]); first | done | rfl | (simp only [List.length_drop, List.length_take]; rfl)) ?_
                 with_reducible refine (merge_Visible.calls k4 _ _ (rd_L4 t488 0) (rd l1 x12_4) t521 _ ?side1 ?side2 A59.out).mono ?_
                 (case side1 => repeat (first | exact (by repeat (first | (with_reducible exact HR519_0.out) | (with_reducible refine Kd.C_alloc ?_ _) | (with_reducible refine Kd.C_drewN ?_ _) | (with_reducible refine Kd.C_drew ?_) | exact HR519_0.out)) | (with_reducible refine Kd.C_alloc ?_ _) | (with_reducible refine Kd.C_drewN ?_ _) | (with_reducible refine Kd.C_drew ?_)))
                 (case side2 => exact HC519_0.out)
                 rintro e w64 ⟨v522, rfl, ho0, hb⟩
                 have HS1_ := (hb.cell (World.block_lt_of_cell? _ _ (hHeld.2.1))).trans (hHeld.2.1)
                 refine ⟨_, rfl, ?_⟩
                 have n0_ := Aside0.mk (Kd.N_elder' (by (with_reducible repeat (first | apply Kd.N_alloc | apply Kd.N_drewN | apply Kd.N_drew)); exact HO_8.out) (Kd.R_base ho0) hb)
                 have n1_ := Aside0.mk (Kd.R_elder' (by (with_reducible repeat (first | apply Kd.R_alloc | apply Kd.R_drewN | apply Kd.R_drew)); exact HO_10.out) (Kd.R_base ho0) hb)
                 have n2_ := Aside0.mk (Kd.V_elder' (by (with_reducible repeat (first | apply Kd.V_alloc | apply Kd.V_drewN | apply Kd.V_drew)); exact HL519_0.out) (Kd.R_base ho0) hb)
                 have n3_ := Aside0.mk (Kd.R_elder' (by (with_reducible repeat (first | apply Kd.R_alloc | apply Kd.R_drewN | apply Kd.R_drew)); exact HO518.out) (Kd.R_base ho0) hb)
                 have n4_ := Aside0.mk (Kd.R_lower (Kd.R_new' (Kd.R_new' (Kd.R_newM (M := fun k_ => (w.heap.size ≤ k_)) ho0 (below_size (by repeat (first | (with_reducible first | exact HB.out | apply below_alloc | apply pw_below_drewN | apply below_drew1) | exact HB.out))) (fun k_ h_ => h_)) (Kd.R_lt (by (with_reducible repeat (first | apply Kd.R_alloc | apply Kd.R_drewN | apply Kd.R_drew)); exact HO_10.out))) (Kd.R_lt (by (with_reducible repeat (first | apply Kd.R_alloc | apply Kd.R_drewN | apply Kd.R_drew)); exact HO518.out))) (below_size (by repeat (first | (with_reducible first | exact HB.out | apply below_alloc | apply pw_below_drewN | apply below_drew1) | exact HB.out))))
                 have n5_ := Aside0.mk (Kd.C_below (by repeat (first | (with_reducible exact HR492_0.out) | (with_reducible refine Kd.C_alloc ?_ _) | (with_reducible refine Kd.C_drewN ?_ _) | (with_reducible refine Kd.C_drew ?_) | exact HR492_0.out)) hb)
                 have n6_ := Aside0.mk (Kd.C_below (by repeat (first | (with_reducible exact HR519_0.out) | (with_reducible refine Kd.C_alloc ?_ _) | (with_reducible refine Kd.C_drewN ?_ _) | (with_reducible refine Kd.C_drew ?_) | exact HR519_0.out)) hb)
                 have n7_ := Aside0.mk (below_step (by repeat (first | (with_reducible first | exact HB.out | apply below_alloc | apply pw_below_drewN | apply below_drew1) | exact HB.out)) hb)
                 clear HO_8
                 clear HO_10
                 clear HL519_0
                 clear HO518
                 clear HR492_0
                 clear HR519_0
                 clear HB
                 have HO_8 := n0_
                 have HO_10 := n1_
                 have HL519_0 := n2_
                 have HO518 := n3_
                 have HO523 := n4_
                 have HR492_0 := n5_
                 have HR519_0 := n6_
                 have HB := n7_
                 clear n0_ n1_ n2_ n3_ n4_ n5_ n6_ n7_
                 (try clear hb)
                 (try clear hb2)
                 (try clear hk)
                 (try clear hi)
                 (try clear ho0)
                 obtain ⟨Ao65, co65, eo65⟩ := Kd.R_slice HO518.out
                 (first | subst eo65 | (injection eo65 with f1_ f2_ f3_; have f4_ := f1_.symm; have f5_ := f3_.symm; clear f1_ f2_ f3_; subst f4_; subst f5_))
                 obtain ⟨Ao66, co66, eo66⟩ := Kd.R_slice HO523.out
                 (first | subst eo66 | (injection eo66 with f1_ f2_ f3_; have f4_ := f1_.symm; have f5_ := f3_.symm; clear f1_ f2_ f3_; subst f4_; subst f5_))
                 refine hK.out _ _ ⟨((HB.out.cell (World.block_lt_of_cell? w _ hw515_0)).trans hw515_0), HS1_, ((HB.out.cell (World.block_lt_of_cell? w _ hw520_0)).trans hw520_0)⟩ (fun hHeld => ?_)
                 clear hK K
                 refine norm_ (a' := ?_) ?_ ?_
                 rotate_left
                 ·show Act.put _ (some 92) _ = _
                  simp only [Act.put, List.setIfInBounds_toArray, List.set_cons_zero, List.set_cons_succ, i64_w, i32_w]
                  rfl
                 refine one_ (i := 14) (N := some 93) #[tt, tt, tt, tt, tt, tt, tt, tt, tt, tt, tt, tt, tt, tt, tt, ff] rfl rfl (one_of HT_.out (by kernel_rfl)) (by decide) (fun K hK => ?_)
                 refine goes_ Try.func13 (by kernel_rfl) rfl #[.slice Ao65 t516.length co65, .slice Ao66 t521.length co66] (by rfl) rfl rfl (by (try simp only [List.map_toArray, List.map_cons, List.map_nil]); first | done | rfl | (simp only [List.length_drop, List.length_take]; rfl)) ?_
                 with_reducible refine (moultlaw12_same.calls k4 _ _ t516 _ _ t521 true _ ?side1 ?side2 ?side3 ?side4 A60.out).mono ?_
                 (case side1 => repeat (first | exact (Kd.R_reads' HO518.out).2.2 | (with_reducible refine Kd.C_alloc ?_ _) | (with_reducible refine Kd.C_drewN ?_ _) | (with_reducible refine Kd.C_drew ?_)))
                 (case side2 => exact (Kd.R_reads' HO518.out).2.1)
                 (case side3 => repeat (first | exact (Kd.R_reads' HO523.out).2.2 | (with_reducible refine Kd.C_alloc ?_ _) | (with_reducible refine Kd.C_drewN ?_ _) | (with_reducible refine Kd.C_drew ?_)))
                 (case side4 => exact (Kd.R_reads' HO523.out).2.1)
                 rintro e w' ⟨rfl, ⟨nd, rfl⟩⟩
                 refine ⟨_, rfl, ?_⟩
                 refine hK.out _ _ ⟨((HB.out.cell (World.block_lt_of_cell? w _ hw515_0)).trans hw515_0), hHeld.2.1, ((HB.out.cell (World.block_lt_of_cell? w _ hw520_0)).trans hw520_0)⟩ (fun hHeld => ?_)
                 clear hK K
                 refine norm_ (a' := ?_) ?_ ?_
                 rotate_left
                 ·show Act.put _ (some 93) _ = _
                  simp only [Act.put, List.setIfInBounds_toArray, List.set_cons_zero, List.set_cons_succ, i64_w, i32_w]
                  rfl
                 refine pq_ (i := 15) (N := some 94) HT_ #[tt, tt, tt, tt, tt, tt, tt, tt, tt, tt, tt, tt, tt, tt, tt, tt] ?_
                 refine done_ (done_of HT_.out (by kernel_rfl)) ?_
                 try go_wp2
                 go_roundg k4
                 case measure => have := HJ5.out; have := HJ16.out; have := HK3.out; have := HK4.out; omega
                 case rel => exact ⟨(wrap64 (x12_4 + 1)), (by first | rfl | (simp; done) | (simp [*]; done)), H', ⟨by have := HJ5.out; have := HJ16.out; have := HK3.out; have := HK4.out; omega⟩, ⟨by (with_reducible repeat (first | apply Kd.N_alloc | apply Kd.N_drewN | apply Kd.N_drew)); exact Kd.N_mono HO_8.out (fun _ hk => ⟨hk.1.1.1, hk.1.1.2⟩)⟩, ⟨by (with_reducible repeat (first | apply Kd.R_alloc | apply Kd.R_drewN | apply Kd.R_drew)); exact Kd.R_mono HO_10.out (fun _ hk => hk.1.1)⟩, ⟨by repeat (first | (with_reducible exact HR492_0.out) | (with_reducible refine Kd.C_alloc ?_ _) | (with_reducible refine Kd.C_drewN ?_ _) | (with_reducible refine Kd.C_drew ?_) | exact HR492_0.out)⟩, ⟨by repeat (first | (with_reducible first | exact HB.out | apply below_alloc | apply pw_below_drewN | apply below_drew1) | exact HB.out)⟩⟩
                ·replace c61 := Bool.eq_false_iff.mpr c61
                 subst c61
                 have H1 : (some false) = some r := by rw [if_neg (show ¬ (false = true) by decide)] at H; exact H
                 clear H
                 have H := H1
                 clear H1
                 obtain rfl := Option.some.inj H
                 try go_wp2
                 have n0_ := Aside0.mk (Kd.N_drew HO_8.out)
                 have n1_ := Aside0.mk (Kd.R_drew HO_10.out)
                 have n2_ := Aside0.mk (Kd.C_drew HR492_0.out)
                 have n3_ := Aside0.mk (below_drew1 HB.out)
                 clear HO_8
                 clear HO_10
                 clear HR492_0
                 clear HB
                 have HO_8 := n0_
                 have HO_10 := n1_
                 have HR492_0 := n2_
                 have HB := n3_
                 clear n0_ n1_ n2_ n3_
                 have p515 : 0 ≤ (x12_4 : Int) := of_decide_eq_true (by first | (with_reducible assumption) | assumption)
                 have q515 : x12_4 < (l1.length : Int) := of_decide_eq_true (by first | (with_reducible assumption) | assumption)
                 obtain ⟨ad515, e515, hx515_0⟩ := Kd.at_int HR1.out x12_4 p515 q515
                 have hw515_0 := hx515_0
                 cases e515
                 replace hx515_0 := (HB.out.cell (World.block_lt_of_cell? w _ hx515_0)).trans hx515_0
                 replace p515 := eq_true p515
                 replace q515 := eq_true q515
                 have p519 : 0 ≤ (0 : Int) := (by omega)
                 have q519 : 0 < (t488.length : Int) := of_decide_eq_true (by first | (with_reducible assumption) | assumption)
                 obtain ⟨ad519, A519_0, c519_0, e519, hx519_0, hl519_0, hi519_0⟩ := at_L4 (Kd.N_reads' HO_8.out).2.2 0 p519 q519
                 obtain rfl : ad492 = ad519 := (by injection e519)
                 obtain ⟨ce519, hce519, hMe519, hcc519⟩ := Kd.N_get HO_8.out [] 0 p519 (by first | exact q519 | exact of_decide_eq_true (by first | (with_reducible assumption) | assumption) | (have e_ := (Kd.N_reads' HO_8.out).1; omega))
                 obtain ⟨ua519_0, uc519_0, rfl, ul519_0, ge519_0⟩ := Kd.FK_slice_open hMe519
                 have hv519_0 := hcc519 0 _ rfl
                 rw [Nat.add_zero, show ((Kd.slice 36 k36)).sz = 1 from rfl, Nat.mul_one] at hv519_0
                 replace hv519_0 := Option.some.inj (hv519_0.symm.trans hx519_0)
                 injection hv519_0 with hva_ hvn_ hvc_
                 rw [hva_] at ge519_0
                 rw [hvc_] at ul519_0
                 have HL519_0 := Aside0.mk (show Kd.V k36 36 _ w.heap.size _ _ (rd_L4 t488 0) from Kd.V_mk ul519_0 ge519_0)
                 clear hva_ hvn_ hvc_ ge519_0 ul519_0
                 clear hcc519 hce519
                 have qi519 : (0 < t488.length) = True := eq_true (by omega)
                 (try rw [show ((0 : Int)).toNat = 0 from rfl] at hx519_0)
                 (try rw [Addr.add_zero'] at hx519_0)
                 have HR519_0 := Aside0.mk hi519_0
                 have HC519_0 := Aside0.mk hl519_0
                 clear hi519_0 hl519_0
                 replace p519 := eq_true p519
                 replace q519 := eq_true q519
                 have p520 : 0 ≤ (x12_4 : Int) := of_decide_eq_true (by first | (with_reducible assumption) | assumption)
                 have q520 : x12_4 < (l1.length : Int) := of_decide_eq_true (by first | (with_reducible assumption) | assumption)
                 obtain ⟨ad520, e520, hx520_0⟩ := Kd.at_int HR1.out x12_4 p520 q520
                 have hw520_0 := hx520_0
                 obtain rfl : ad515 = ad520 := (by injection e520)
                 replace hx520_0 := (HB.out.cell (World.block_lt_of_cell? w _ hx520_0)).trans hx520_0
                 replace p520 := eq_true p520
                 replace q520 := eq_true q520
                 refine start_ (n := 16) (S := fun w' => w'.cell? (ad515.add (x12_4).toNat) = some (.int .i64 (rd l1 x12_4)) ∧ w'.cell? ad492 = some (.slice A519_0 (rd_L4 t488 0).length c519_0) ∧ w'.cell? (ad515.add (x12_4).toNat) = some (.int .i64 (rd l1 x12_4))) (ds := []) #[ff, ff, ff, ff, ff, ff, ff, ff, ff, ff, ff, ff, ff, ff, ff, ff] (by kernel_rfl) rfl rfl ⟨((HB.out.cell (World.block_lt_of_cell? w _ hw515_0)).trans hw515_0), hx519_0, ((HB.out.cell (World.block_lt_of_cell? w _ hw520_0)).trans hw520_0)⟩ (fun hHeld => ?_); refine with_tabW moultlaw12_MergeThins.tab16 moultlaw12_MergeThins.bits16 (fun HT_ HW_ => ?_)
                 generalize wr.drew = w67 at HO_8 HO_10 HR492_0 HB HL519_0 HR519_0 hx515_0 hx519_0 hx520_0 hHeld ⊢
                 refine pq_ (i := 0) (N := some 79) HT_ #[tt, ff, ff, ff, ff, ff, ff, ff, ff, ff, ff, ff, ff, ff, ff, ff] ?_
                 refine pq_ (i := 1) (N := some 80) HT_ #[tt, tt, ff, ff, ff, ff, ff, ff, ff, ff, ff, ff, ff, ff, ff, ff] ?_
                 refine pq_ (i := 2) (N := some 81) HT_ #[tt, tt, tt, ff, ff, ff, ff, ff, ff, ff, ff, ff, ff, ff, ff, ff] ?_
                 refine pq_ (i := 3) (N := some 82) HT_ #[tt, tt, tt, tt, ff, ff, ff, ff, ff, ff, ff, ff, ff, ff, ff, ff] ?_
                 refine pq_ (i := 6) (N := some 85) HT_ #[tt, tt, tt, tt, ff, ff, tt, ff, ff, ff, ff, ff, ff, ff, ff, ff] ?_
                 refine pq_ (i := 7) (N := some 86) HT_ #[tt, tt, tt, tt, ff, ff, tt, tt, ff, ff, ff, ff, ff, ff, ff, ff] ?_
                 refine pq_ (i := 9) (N := some 88) HT_ #[tt, tt, tt, tt, ff, ff, tt, tt, ff, tt, ff, ff, ff, ff, ff, ff] ?_
                 refine pq_ (i := 10) (N := some 89) HT_ #[tt, tt, tt, tt, ff, ff, tt, tt, ff, tt, tt, ff, ff, ff, ff, ff] ?_
                 refine pq_ (i := 11) (N := some 90) HT_ #[tt, tt, tt, tt, ff, ff, tt, tt, ff, tt, tt, tt, ff, ff, ff, ff] ?_
                 refine take_ (i := 4) (N := some 83) (v := ?_) (a' := ?_) #[tt, tt, tt, tt, tt, ff, tt, tt, ff, tt, tt, tt, ff, ff, ff, ff] rfl rfl (take_ofW HT_.out HW_.out (by kernel_rfl)) (fun _ _ _ h => h) (Or.inl ⟨by rfl, ?_⟩) hHeld ?_ ?_
                 rotate_left
                 ·rintro w' ⟨s0, s1, s2⟩
                  go_simp
                  with_reducible rfl
                 rotate_left
                 ·simp only [Act.put, List.setIfInBounds_toArray, List.set_cons_zero, List.set_cons_succ, i64_w, i32_w]
                  rfl
                 refine take_ (i := 8) (N := some 87) (v := ?_) (a' := ?_) #[tt, tt, tt, tt, tt, ff, tt, tt, tt, tt, tt, tt, ff, ff, ff, ff] rfl rfl (take_ofW HT_.out HW_.out (by kernel_rfl)) (fun _ _ _ h => h) (Or.inl ⟨by rfl, ?_⟩) hHeld ?_ ?_
                 rotate_left
                 ·rintro w' ⟨s0, s1, s2⟩
                  go_simp
                  with_reducible rfl
                 rotate_left
                 ·simp only [Act.put, List.setIfInBounds_toArray, List.set_cons_zero, List.set_cons_succ, i64_w, i32_w]
                  rfl
                 refine take_ (i := 12) (N := some 91) (v := ?_) (a' := ?_) #[tt, tt, tt, tt, tt, ff, tt, tt, tt, tt, tt, tt, tt, ff, ff, ff] rfl rfl (take_ofW HT_.out HW_.out (by kernel_rfl)) (fun _ _ _ h => h) (Or.inl ⟨by rfl, ?_⟩) hHeld ?_ ?_
                 rotate_left
                 ·rintro w' ⟨s0, s1, s2⟩
                  go_simp
                  with_reducible rfl
                 rotate_left
                 ·simp only [Act.put, List.setIfInBounds_toArray, List.set_cons_zero, List.set_cons_succ, i64_w, i32_w]
                  rfl
                 refine one_ (i := 5) (N := some 84) #[tt, tt, tt, tt, tt, tt, tt, tt, tt, tt, tt, tt, tt, ff, ff, ff] rfl rfl (one_of HT_.out (by kernel_rfl)) (by decide) (fun K hK => ?_)
                 refine goes_ Try.func14 (by kernel_rfl) rfl #[.slice Ao54 t493.length co54, .int .i64 (rd l1 x12_4)] (by rfl) rfl rfl (by (try simp only [List.map_toArray, List.map_cons, List.map_nil]); first | done | rfl | (simp only [List.length_drop, List.length_take]; rfl)) ?_
                 with_reducible refine (merge_Visible.calls k4 _ _ t493 (rd l1 x12_4) t516 _ ?side1 ?side2 A57.out).mono ?_
                 (case side1 => repeat (first | exact (Kd.R_reads' HO_10.out).2.2 | (with_reducible refine Kd.C_alloc ?_ _) | (with_reducible refine Kd.C_drewN ?_ _) | (with_reducible refine Kd.C_drew ?_)))
                 (case side2 => exact (Kd.R_reads' HO_10.out).2.1)
                 rintro e w68 ⟨v517, rfl, ho0, hb⟩
                 have HS1_ := (hb.cell (World.block_lt_of_cell? _ _ (hHeld.2.1))).trans (hHeld.2.1)
                 refine ⟨_, rfl, ?_⟩
                 have n0_ := Aside0.mk (Kd.N_elder' (by (with_reducible repeat (first | apply Kd.N_alloc | apply Kd.N_drewN | apply Kd.N_drew)); exact HO_8.out) (Kd.R_base ho0) hb)
                 have n1_ := Aside0.mk (Kd.R_elder' (by (with_reducible repeat (first | apply Kd.R_alloc | apply Kd.R_drewN | apply Kd.R_drew)); exact HO_10.out) (Kd.R_base ho0) hb)
                 have n2_ := Aside0.mk (Kd.V_elder' (by (with_reducible repeat (first | apply Kd.V_alloc | apply Kd.V_drewN | apply Kd.V_drew)); exact HL519_0.out) (Kd.R_base ho0) hb)
                 have n3_ := Aside0.mk (Kd.R_lower (Kd.R_new' (Kd.R_newM (M := fun k_ => (w.heap.size ≤ k_)) ho0 (below_size (by repeat (first | (with_reducible first | exact HB.out | apply below_alloc | apply pw_below_drewN | apply below_drew1) | exact HB.out))) (fun k_ h_ => h_)) (Kd.R_lt (by (with_reducible repeat (first | apply Kd.R_alloc | apply Kd.R_drewN | apply Kd.R_drew)); exact HO_10.out))) (below_size (by repeat (first | (with_reducible first | exact HB.out | apply below_alloc | apply pw_below_drewN | apply below_drew1) | exact HB.out))))
                 have n4_ := Aside0.mk (Kd.C_below (by repeat (first | (with_reducible exact HR492_0.out) | (with_reducible refine Kd.C_alloc ?_ _) | (with_reducible refine Kd.C_drewN ?_ _) | (with_reducible refine Kd.C_drew ?_) | exact HR492_0.out)) hb)
                 have n5_ := Aside0.mk (Kd.C_below (by repeat (first | (with_reducible exact HR519_0.out) | (with_reducible refine Kd.C_alloc ?_ _) | (with_reducible refine Kd.C_drewN ?_ _) | (with_reducible refine Kd.C_drew ?_) | exact HR519_0.out)) hb)
                 have n6_ := Aside0.mk (below_step (by repeat (first | (with_reducible first | exact HB.out | apply below_alloc | apply pw_below_drewN | apply below_drew1) | exact HB.out)) hb)
                 clear HO_8
                 clear HO_10
                 clear HL519_0
                 clear HR492_0
                 clear HR519_0
                 clear HB
                 have HO_8 := n0_
                 have HO_10 := n1_
                 have HL519_0 := n2_
                 have HO518 := n3_
                 have HR492_0 := n4_
                 have HR519_0 := n5_
                 have HB := n6_
                 clear n0_ n1_ n2_ n3_ n4_ n5_ n6_
                 (try clear hb)
                 (try clear hb2)
                 (try clear hk)
                 (try clear hi)
                 (try clear ho0)
                 refine hK.out _ _ ⟨((HB.out.cell (World.block_lt_of_cell? w _ hw515_0)).trans hw515_0), HS1_, ((HB.out.cell (World.block_lt_of_cell? w _ hw520_0)).trans hw520_0)⟩ (fun hHeld => ?_)
                 clear hK K
                 refine norm_ (a' := ?_) ?_ ?_
                 rotate_left
                 ·show Act.put _ (some 84) _ = _
                  simp only [Act.put, List.setIfInBounds_toArray, List.set_cons_zero, List.set_cons_succ, i64_w, i32_w]
                  rfl
                 refine one_ (i := 13) (N := some 92) #[tt, tt, tt, tt, tt, tt, tt, tt, tt, tt, tt, tt, tt, tt, ff, ff] rfl rfl (one_of HT_.out (by kernel_rfl)) (by decide) (fun K hK => ?_)
                 refine goes_ Try.func14 (by kernel_rfl) rfl #[.slice A519_0 (rd_L4 t488 0).length c519_0, .int .i64 (rd l1 x12_4)] (by rfl) rfl rfl (by (try simp only [List.map_toArray, List.map_cons, List.map_nil]); first | done | rfl | (simp only [List.length_drop, List.length_take]; rfl)) ?_
                 with_reducible refine (merge_Visible.calls k4 _ _ (rd_L4 t488 0) (rd l1 x12_4) t521 _ ?side1 ?side2 A59.out).mono ?_
                 (case side1 => repeat (first | exact (by repeat (first | (with_reducible exact HR519_0.out) | (with_reducible refine Kd.C_alloc ?_ _) | (with_reducible refine Kd.C_drewN ?_ _) | (with_reducible refine Kd.C_drew ?_) | exact HR519_0.out)) | (with_reducible refine Kd.C_alloc ?_ _) | (with_reducible refine Kd.C_drewN ?_ _) | (with_reducible refine Kd.C_drew ?_)))
                 (case side2 => exact HC519_0.out)
                 rintro e w69 ⟨v522, rfl, ho0, hb⟩
                 have HS1_ := (hb.cell (World.block_lt_of_cell? _ _ (hHeld.2.1))).trans (hHeld.2.1)
                 refine ⟨_, rfl, ?_⟩
                 have n0_ := Aside0.mk (Kd.N_elder' (by (with_reducible repeat (first | apply Kd.N_alloc | apply Kd.N_drewN | apply Kd.N_drew)); exact HO_8.out) (Kd.R_base ho0) hb)
                 have n1_ := Aside0.mk (Kd.R_elder' (by (with_reducible repeat (first | apply Kd.R_alloc | apply Kd.R_drewN | apply Kd.R_drew)); exact HO_10.out) (Kd.R_base ho0) hb)
                 have n2_ := Aside0.mk (Kd.V_elder' (by (with_reducible repeat (first | apply Kd.V_alloc | apply Kd.V_drewN | apply Kd.V_drew)); exact HL519_0.out) (Kd.R_base ho0) hb)
                 have n3_ := Aside0.mk (Kd.R_elder' (by (with_reducible repeat (first | apply Kd.R_alloc | apply Kd.R_drewN | apply Kd.R_drew)); exact HO518.out) (Kd.R_base ho0) hb)
                 have n4_ := Aside0.mk (Kd.R_lower (Kd.R_new' (Kd.R_new' (Kd.R_newM (M := fun k_ => (w.heap.size ≤ k_)) ho0 (below_size (by repeat (first | (with_reducible first | exact HB.out | apply below_alloc | apply pw_below_drewN | apply below_drew1) | exact HB.out))) (fun k_ h_ => h_)) (Kd.R_lt (by (with_reducible repeat (first | apply Kd.R_alloc | apply Kd.R_drewN | apply Kd.R_drew)); exact HO_10.out))) (Kd.R_lt (by (with_reducible repeat (first | apply Kd.R_alloc | apply Kd.R_drewN | apply Kd.R_drew)); exact HO518.out))) (below_size (by repeat (first | (with_reducible first | exact HB.out | apply below_alloc | apply pw_below_drewN | apply below_drew1) | exact HB.out))))
                 have n5_ := Aside0.mk (Kd.C_below (by repeat (first | (with_reducible exact HR492_0.out) | (with_reducible refine Kd.C_alloc ?_ _) | (with_reducible refine Kd.C_drewN ?_ _) | (with_reducible refine Kd.C_drew ?_) | exact HR492_0.out)) hb)
                 have n6_ := Aside0.mk (Kd.C_below (by repeat (first | (with_reducible exact HR519_0.out) | (with_reducible refine Kd.C_alloc ?_ _) | (with_reducible refine Kd.C_drewN ?_ _) | (with_reducible refine Kd.C_drew ?_) | exact HR519_0.out)) hb)
                 have n7_ := Aside0.mk (below_step (by repeat (first | (with_reducible first | exact HB.out | apply below_alloc | apply pw_below_drewN | apply below_drew1) | exact HB.out)) hb)
                 clear HO_8
                 clear HO_10
                 clear HL519_0
                 clear HO518
                 clear HR492_0
                 clear HR519_0
                 clear HB
                 have HO_8 := n0_
                 have HO_10 := n1_
                 have HL519_0 := n2_
                 have HO518 := n3_
                 have HO523 := n4_
                 have HR492_0 := n5_
                 have HR519_0 := n6_
                 have HB := n7_
                 clear n0_ n1_ n2_ n3_ n4_ n5_ n6_ n7_
                 (try clear hb)
                 (try clear hb2)
                 (try clear hk)
                 (try clear hi)
                 (try clear ho0)
                 obtain ⟨Ao70, co70, eo70⟩ := Kd.R_slice HO518.out
                 (first | subst eo70 | (injection eo70 with f1_ f2_ f3_; have f4_ := f1_.symm; have f5_ := f3_.symm; clear f1_ f2_ f3_; subst f4_; subst f5_))
                 obtain ⟨Ao71, co71, eo71⟩ := Kd.R_slice HO523.out
                 (first | subst eo71 | (injection eo71 with f1_ f2_ f3_; have f4_ := f1_.symm; have f5_ := f3_.symm; clear f1_ f2_ f3_; subst f4_; subst f5_))
                 refine hK.out _ _ ⟨((HB.out.cell (World.block_lt_of_cell? w _ hw515_0)).trans hw515_0), HS1_, ((HB.out.cell (World.block_lt_of_cell? w _ hw520_0)).trans hw520_0)⟩ (fun hHeld => ?_)
                 clear hK K
                 refine norm_ (a' := ?_) ?_ ?_
                 rotate_left
                 ·show Act.put _ (some 92) _ = _
                  simp only [Act.put, List.setIfInBounds_toArray, List.set_cons_zero, List.set_cons_succ, i64_w, i32_w]
                  rfl
                 refine one_ (i := 14) (N := some 93) #[tt, tt, tt, tt, tt, tt, tt, tt, tt, tt, tt, tt, tt, tt, tt, ff] rfl rfl (one_of HT_.out (by kernel_rfl)) (by decide) (fun K hK => ?_)
                 refine goes_ Try.func13 (by kernel_rfl) rfl #[.slice Ao70 t516.length co70, .slice Ao71 t521.length co71] (by rfl) rfl rfl (by (try simp only [List.map_toArray, List.map_cons, List.map_nil]); first | done | rfl | (simp only [List.length_drop, List.length_take]; rfl)) ?_
                 with_reducible refine (moultlaw12_same.calls k4 _ _ t516 _ _ t521 false _ ?side1 ?side2 ?side3 ?side4 A60.out).mono ?_
                 (case side1 => repeat (first | exact (Kd.R_reads' HO518.out).2.2 | (with_reducible refine Kd.C_alloc ?_ _) | (with_reducible refine Kd.C_drewN ?_ _) | (with_reducible refine Kd.C_drew ?_)))
                 (case side2 => exact (Kd.R_reads' HO518.out).2.1)
                 (case side3 => repeat (first | exact (Kd.R_reads' HO523.out).2.2 | (with_reducible refine Kd.C_alloc ?_ _) | (with_reducible refine Kd.C_drewN ?_ _) | (with_reducible refine Kd.C_drew ?_)))
                 (case side4 => exact (Kd.R_reads' HO523.out).2.1)
                 rintro e w' ⟨rfl, ⟨nd, rfl⟩⟩
                 refine ⟨_, rfl, ?_⟩
                 refine hK.out _ _ ⟨((HB.out.cell (World.block_lt_of_cell? w _ hw515_0)).trans hw515_0), hHeld.2.1, ((HB.out.cell (World.block_lt_of_cell? w _ hw520_0)).trans hw520_0)⟩ (fun hHeld => ?_)
                 clear hK K
                 refine norm_ (a' := ?_) ?_ ?_
                 rotate_left
                 ·show Act.put _ (some 93) _ = _
                  simp only [Act.put, List.setIfInBounds_toArray, List.set_cons_zero, List.set_cons_succ, i64_w, i32_w]
                  rfl
                 refine pq_ (i := 15) (N := some 94) HT_ #[tt, tt, tt, tt, tt, tt, tt, tt, tt, tt, tt, tt, tt, tt, tt, tt] ?_
                 refine done_ (done_of HT_.out (by kernel_rfl)) ?_
                 try go_wp2
                 go_ret
                 exact ⟨by first | rfl | (simp [errW_none, errW_some] <;> rfl) | (simp [*, errW_none, errW_some] <;> rfl), by repeat (first | (with_reducible first | exact HB.out | apply below_alloc | apply pw_below_drewN | apply below_drew1) | exact HB.out)⟩
               ·rw [if_neg c58] at H
                exact absurd H (by simp)
              ·rw [if_neg c56] at H
               exact absurd H (by simp)
             ·rw [if_neg c55] at H
              have c55b0 : decide (x12_4 < (l1.length : Int)) = false := decide_eq_false c55
              clear c55
              replace H := Option.bind_eq_some_iff.mp H
              obtain ⟨t508, A720, H⟩ := H
              replace H : ((moultlaw12_same.f k4 t508 t493).bind fun t511 => (if t511 = true then ((merge_Thin.f k4 ([] : List (S36)) l1 a2).bind fun t512 => (some ((t512.length : Int) == 0))) else (some false))) = some r := H
              have A72 := Aside0.mk A720
              clear A720
              replace H := Option.bind_eq_some_iff.mp H
              obtain ⟨t511, A730, H⟩ := H
              replace H : (if t511 = true then ((merge_Thin.f k4 ([] : List (S36)) l1 a2).bind fun t512 => (some ((t512.length : Int) == 0))) else (some false)) = some r := H
              have A73 := Aside0.mk A730
              clear A730
              by_cases c74 : t511 = true
              ·subst c74
               have H1 : ((merge_Thin.f k4 ([] : List (S36)) l1 a2).bind fun t512 => (some ((t512.length : Int) == 0))) = some r := by rw [if_pos rfl] at H; exact H
               clear H
               have H := H1
               clear H1
               replace H := Option.bind_eq_some_iff.mp H
               obtain ⟨t512, A750, H⟩ := H
               replace H : (some ((t512.length : Int) == 0)) = some r := H
               have A75 := Aside0.mk A750
               clear A750
               obtain rfl := Option.some.inj H
               go_wp2_with (first | ((with_reducible refine gate_callee (f := 16) rfl ?_); refine goesL_ (some 98) rfl rfl Try.func16 (by kernel_rfl) rfl #[.slice Ao54 t493.length co54, .slice A1 l1.length c1, .bool a2] rfl (by (try simp only [List.map_toArray, List.map_cons, List.map_nil]); first | done | rfl | (simp only [List.length_drop, List.length_take]; rfl)) ?_; (with_reducible refine (merge_Thin.calls k4 _ _ t493 _ _ l1 a2 t508 _ ?side1 ?side2 ?side3 ?side4 A72.out).mono ?_); (case side1 => repeat (first | exact (Kd.R_reads' HO_10.out).2.2 | (with_reducible refine Kd.C_alloc ?_ _) | (with_reducible refine Kd.C_drewN ?_ _) | (with_reducible refine Kd.C_drew ?_))); (case side2 => exact (Kd.R_reads' HO_10.out).2.1); (case side3 => repeat (first | exact (Kd.C_below HR1.out HB.out) | (with_reducible refine Kd.C_alloc ?_ _) | (with_reducible refine Kd.C_drewN ?_ _) | (with_reducible refine Kd.C_drew ?_))); (case side4 => exact HC1.out); rintro e w76 ⟨v509, rfl, ho0, hb⟩; refine ⟨_, rfl, ?_⟩; have n0_ := Aside0.mk (Kd.N_elder' (by (with_reducible repeat (first | apply Kd.N_alloc | apply Kd.N_drewN | apply Kd.N_drew)); exact HO_8.out) (Kd.R_base ho0) hb); have n1_ := Aside0.mk (Kd.R_elder' (by (with_reducible repeat (first | apply Kd.R_alloc | apply Kd.R_drewN | apply Kd.R_drew)); exact HO_10.out) (Kd.R_base ho0) hb); have n2_ := Aside0.mk (Kd.R_lower (Kd.R_new' (Kd.R_newM (M := fun k_ => (w.heap.size ≤ k_)) ho0 (below_size (by repeat (first | (with_reducible first | exact HB.out | apply below_alloc | apply pw_below_drewN | apply below_drew1) | exact HB.out))) (fun k_ h_ => h_)) (Kd.R_lt (by (with_reducible repeat (first | apply Kd.R_alloc | apply Kd.R_drewN | apply Kd.R_drew)); exact HO_10.out))) (below_size (by repeat (first | (with_reducible first | exact HB.out | apply below_alloc | apply pw_below_drewN | apply below_drew1) | exact HB.out)))); have n3_ := Aside0.mk (Kd.C_below (by repeat (first | (with_reducible exact HR492_0.out) | (with_reducible refine Kd.C_alloc ?_ _) | (with_reducible refine Kd.C_drewN ?_ _) | (with_reducible refine Kd.C_drew ?_) | exact HR492_0.out)) hb); have n4_ := Aside0.mk (below_step (by repeat (first | (with_reducible first | exact HB.out | apply below_alloc | apply pw_below_drewN | apply below_drew1) | exact HB.out)) hb); clear HO_8; clear HO_10; clear HR492_0; clear HB; have HO_8 := n0_; have HO_10 := n1_; have HO510 := n2_; have HR492_0 := n3_; have HB := n4_; clear n0_ n1_ n2_ n3_ n4_; (try clear hb); (try clear hb2); (try clear hk); (try clear hi); (try clear ho0); obtain ⟨Ao77, co77, eo77⟩ := Kd.R_slice HO510.out; subst eo77) | ((with_reducible refine gate_callee (f := 13) rfl ?_); refine goesL_ (some 100) rfl rfl Try.func13 (by kernel_rfl) rfl #[.slice Ao77 t508.length co77, .slice Ao54 t493.length co54] rfl (by (try simp only [List.map_toArray, List.map_cons, List.map_nil]); first | done | rfl | (simp only [List.length_drop, List.length_take]; rfl)) ?_; (with_reducible refine (moultlaw12_same.calls k4 _ _ t508 _ _ t493 true _ ?side1 ?side2 ?side3 ?side4 A73.out).mono ?_); (case side1 => repeat (first | exact (Kd.R_reads' HO510.out).2.2 | (with_reducible refine Kd.C_alloc ?_ _) | (with_reducible refine Kd.C_drewN ?_ _) | (with_reducible refine Kd.C_drew ?_))); (case side2 => exact (Kd.R_reads' HO510.out).2.1); (case side3 => repeat (first | exact (Kd.R_reads' HO_10.out).2.2 | (with_reducible refine Kd.C_alloc ?_ _) | (with_reducible refine Kd.C_drewN ?_ _) | (with_reducible refine Kd.C_drew ?_))); (case side4 => exact (Kd.R_reads' HO_10.out).2.1); rintro e w' ⟨rfl, ⟨nd, rfl⟩⟩; refine ⟨_, rfl, ?_⟩) | (go_at_call 16; (refine (merge_Thin.calls k4 _ _ ([] : List (S36)) _ _ l1 a2 t512 _ ?side1 ?side2 ?side3 ?side4 A75.out).mono ?_); (case side1 => exact Kd.C_nil _ _); (case side2 => exact Nat.le_refl _); (case side3 => repeat (first | exact (Kd.C_below HR1.out (by repeat (first | (with_reducible first | exact HB.out | apply below_alloc | apply pw_below_drewN | apply below_drew1) | exact HB.out))) | (with_reducible refine Kd.C_alloc ?_ _) | (with_reducible refine Kd.C_drewN ?_ _) | (with_reducible refine Kd.C_drew ?_))); (case side4 => exact HC1.out); rintro e w78 ⟨v513, rfl, ho0, hb⟩; have n0_ := Aside0.mk (Kd.N_elder' (by (with_reducible repeat (first | apply Kd.N_alloc | apply Kd.N_drewN | apply Kd.N_drew)); exact HO_8.out) (Kd.R_base ho0) hb); have n1_ := Aside0.mk (Kd.R_elder' (by (with_reducible repeat (first | apply Kd.R_alloc | apply Kd.R_drewN | apply Kd.R_drew)); exact HO_10.out) (Kd.R_base ho0) hb); have n2_ := Aside0.mk (Kd.R_elder' (by (with_reducible repeat (first | apply Kd.R_alloc | apply Kd.R_drewN | apply Kd.R_drew)); exact HO510.out) (Kd.R_base ho0) hb); have n3_ := Aside0.mk (Kd.R_lower (Kd.R_new' (Kd.R_new' (Kd.R_newM (M := fun k_ => (w.heap.size ≤ k_)) ho0 (below_size (by repeat (first | (with_reducible first | exact HB.out | apply below_alloc | apply pw_below_drewN | apply below_drew1) | exact HB.out))) (fun k_ h_ => h_)) (Kd.R_lt (by (with_reducible repeat (first | apply Kd.R_alloc | apply Kd.R_drewN | apply Kd.R_drew)); exact HO_10.out))) (Kd.R_lt (by (with_reducible repeat (first | apply Kd.R_alloc | apply Kd.R_drewN | apply Kd.R_drew)); exact HO510.out))) (below_size (by repeat (first | (with_reducible first | exact HB.out | apply below_alloc | apply pw_below_drewN | apply below_drew1) | exact HB.out)))); have n4_ := Aside0.mk (Kd.C_below (by repeat (first | (with_reducible exact HR492_0.out) | (with_reducible refine Kd.C_alloc ?_ _) | (with_reducible refine Kd.C_drewN ?_ _) | (with_reducible refine Kd.C_drew ?_) | exact HR492_0.out)) hb); have n5_ := Aside0.mk (below_step (by repeat (first | (with_reducible first | exact HB.out | apply below_alloc | apply pw_below_drewN | apply below_drew1) | exact HB.out)) hb); clear HO_8; clear HO_10; clear HO510; clear HR492_0; clear HB; have HO_8 := n0_; have HO_10 := n1_; have HO510 := n2_; have HO514 := n3_; have HR492_0 := n4_; have HB := n5_; clear n0_ n1_ n2_ n3_ n4_ n5_; (try clear hb); (try clear hb2); (try clear hk); (try clear hi); (try clear ho0); obtain ⟨Ao79, co79, eo79⟩ := Kd.R_slice HO514.out; subst eo79))
               go_ret
               exact ⟨by first | rfl | (simp [errW_none, errW_some] <;> rfl) | (simp [*, errW_none, errW_some] <;> rfl), by repeat (first | (with_reducible first | exact HB.out | apply below_alloc | apply pw_below_drewN | apply below_drew1) | exact HB.out)⟩
              ·replace c74 := Bool.eq_false_iff.mpr c74
               subst c74
               have H1 : (some false) = some r := by rw [if_neg (show ¬ (false = true) by decide)] at H; exact H
               clear H
               have H := H1
               clear H1
               obtain rfl := Option.some.inj H
               go_wp2_with (first | ((with_reducible refine gate_callee (f := 16) rfl ?_); refine goesL_ (some 98) rfl rfl Try.func16 (by kernel_rfl) rfl #[.slice Ao54 t493.length co54, .slice A1 l1.length c1, .bool a2] rfl (by (try simp only [List.map_toArray, List.map_cons, List.map_nil]); first | done | rfl | (simp only [List.length_drop, List.length_take]; rfl)) ?_; (with_reducible refine (merge_Thin.calls k4 _ _ t493 _ _ l1 a2 t508 _ ?side1 ?side2 ?side3 ?side4 A72.out).mono ?_); (case side1 => repeat (first | exact (Kd.R_reads' HO_10.out).2.2 | (with_reducible refine Kd.C_alloc ?_ _) | (with_reducible refine Kd.C_drewN ?_ _) | (with_reducible refine Kd.C_drew ?_))); (case side2 => exact (Kd.R_reads' HO_10.out).2.1); (case side3 => repeat (first | exact (Kd.C_below HR1.out HB.out) | (with_reducible refine Kd.C_alloc ?_ _) | (with_reducible refine Kd.C_drewN ?_ _) | (with_reducible refine Kd.C_drew ?_))); (case side4 => exact HC1.out); rintro e w80 ⟨v509, rfl, ho0, hb⟩; refine ⟨_, rfl, ?_⟩; have n0_ := Aside0.mk (Kd.N_elder' (by (with_reducible repeat (first | apply Kd.N_alloc | apply Kd.N_drewN | apply Kd.N_drew)); exact HO_8.out) (Kd.R_base ho0) hb); have n1_ := Aside0.mk (Kd.R_elder' (by (with_reducible repeat (first | apply Kd.R_alloc | apply Kd.R_drewN | apply Kd.R_drew)); exact HO_10.out) (Kd.R_base ho0) hb); have n2_ := Aside0.mk (Kd.R_lower (Kd.R_new' (Kd.R_newM (M := fun k_ => (w.heap.size ≤ k_)) ho0 (below_size (by repeat (first | (with_reducible first | exact HB.out | apply below_alloc | apply pw_below_drewN | apply below_drew1) | exact HB.out))) (fun k_ h_ => h_)) (Kd.R_lt (by (with_reducible repeat (first | apply Kd.R_alloc | apply Kd.R_drewN | apply Kd.R_drew)); exact HO_10.out))) (below_size (by repeat (first | (with_reducible first | exact HB.out | apply below_alloc | apply pw_below_drewN | apply below_drew1) | exact HB.out)))); have n3_ := Aside0.mk (Kd.C_below (by repeat (first | (with_reducible exact HR492_0.out) | (with_reducible refine Kd.C_alloc ?_ _) | (with_reducible refine Kd.C_drewN ?_ _) | (with_reducible refine Kd.C_drew ?_) | exact HR492_0.out)) hb); have n4_ := Aside0.mk (below_step (by repeat (first | (with_reducible first | exact HB.out | apply below_alloc | apply pw_below_drewN | apply below_drew1) | exact HB.out)) hb); clear HO_8; clear HO_10; clear HR492_0; clear HB; have HO_8 := n0_; have HO_10 := n1_; have HO510 := n2_; have HR492_0 := n3_; have HB := n4_; clear n0_ n1_ n2_ n3_ n4_; (try clear hb); (try clear hb2); (try clear hk); (try clear hi); (try clear ho0); obtain ⟨Ao81, co81, eo81⟩ := Kd.R_slice HO510.out; subst eo81) | ((with_reducible refine gate_callee (f := 13) rfl ?_); refine goesL_ (some 100) rfl rfl Try.func13 (by kernel_rfl) rfl #[.slice Ao81 t508.length co81, .slice Ao54 t493.length co54] rfl (by (try simp only [List.map_toArray, List.map_cons, List.map_nil]); first | done | rfl | (simp only [List.length_drop, List.length_take]; rfl)) ?_; (with_reducible refine (moultlaw12_same.calls k4 _ _ t508 _ _ t493 false _ ?side1 ?side2 ?side3 ?side4 A73.out).mono ?_); (case side1 => repeat (first | exact (Kd.R_reads' HO510.out).2.2 | (with_reducible refine Kd.C_alloc ?_ _) | (with_reducible refine Kd.C_drewN ?_ _) | (with_reducible refine Kd.C_drew ?_))); (case side2 => exact (Kd.R_reads' HO510.out).2.1); (case side3 => repeat (first | exact (Kd.R_reads' HO_10.out).2.2 | (with_reducible refine Kd.C_alloc ?_ _) | (with_reducible refine Kd.C_drewN ?_ _) | (with_reducible refine Kd.C_drew ?_))); (case side4 => exact (Kd.R_reads' HO_10.out).2.1); rintro e w' ⟨rfl, ⟨nd, rfl⟩⟩; refine ⟨_, rfl, ?_⟩))
               go_ret
               exact ⟨by first | rfl | (simp [errW_none, errW_some] <;> rfl) | (simp [*, errW_none, errW_some] <;> rfl), by repeat (first | (with_reducible first | exact HB.out | apply below_alloc | apply pw_below_drewN | apply below_drew1) | exact HB.out)⟩
    ·rw [if_neg c15] at H
     exact absurd H (by simp)

end Go.Proofs.Ythdoanbadhfhjaa.PAll

-- held
