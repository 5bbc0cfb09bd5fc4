-- Laid by ownprint.py (a program of the session, in wip/tools), out of the translation: Lean checks it.
import Derived.Test.YthdoanbadhfhjaaPAllx0
import Derived.Test.YthdoanbadhfhjaaPAllx7
import Derived.Test.YthdoanbadhfhjaaPAllx9
import Derived.Test.YthdoanbadhfhjaaPAllx12
import Derived.Test.YthdoanbadhfhjaaPAllx20
import Derived.Test.YthdoanbadhfhjaaGv
import Derived.Test.YthdoanbadhfhjaaGw
namespace Go.Proofs.Ythdoanbadhfhjaa.PAll
open Go.RowKit Go.Proofs.YthdoanbadhfhjaaW.PrintWords Go.Proofs.YthdoanbadhfhjaaW.PrintLast Go.Proofs.YthdoanbadhfhjaaW.PrintMore
attribute [local go_sem] max2_int min2_int max_two min_two max_three min_three max_four min_four   -- for this text's walks alone
set_option linter.unusedVariables false
set_option linter.unusedSimpArgs false

/-! ### moultlaw12_MergeNeeds: function 8 -/
mutual
def moultlaw12_MergeNeeds.j0 : Nat → List Int → Bool → Bool → List (List (S36)) → Bool → Option (Bool)
 | 0, _, _, _, _, _ => none
 | k + 1, x1, x2, x7, x8, x32 => if x32 = true then (some x7) else (if 0 < (x8.length : Int) then ((merge_Thin.f k (rd_L4 x8 0) x1 x2).bind fun t625 => (moultlaw12_MergeNeeds.l0 k x1 x2 x8 t625 0)) else (none))
def moultlaw12_MergeNeeds.l0 : Nat → List Int → Bool → List (List (S36)) → List (S36) → Int → Option (Bool)
 | 0, _, _, _, _, _ => none
 | k + 1, x1, x2, x8, x10, x11 => if x11 < (x10.length : Int) then (if 0 < (x8.length : Int) then (if 0 ≤ x11 then ((moultlaw12_newest.f k (rd_L4 x8 0) ((rd_T36 x10 x11).f0) ((rd_T36 x10 x11).f1) ((rd_T36 x10 x11).f2) ((rd_T36 x10 x11).f3) 1125899906842624).bind fun t630 => (moultlaw12_MergeNeeds.l1 k x1 x2 x8 x10 x11 t630 0)) else (none)) else (none)) else (some true)
def moultlaw12_MergeNeeds.l1 : Nat → List Int → Bool → List (List (S36)) → List (S36) → Int → Bool → Int → Option (Bool)
 | 0, _, _, _, _, _, _, _ => none
 | k + 1, x1, x2, x8, x10, x11, x12, x13 => if x13 < (x1.length : Int) then (if x12 = true then (moultlaw12_MergeNeeds.l1 k x1 x2 x8 x10 x11 true (wrap64 (x13 + 1))) else (if 0 < (x8.length : Int) then (if 0 ≤ x11 then (if x11 < (x10.length : Int) then (if 0 ≤ x13 then ((moultlaw12_newest.f k (rd_L4 x8 0) ((rd_T36 x10 x11).f0) ((rd_T36 x10 x11).f1) ((rd_T36 x10 x11).f2) ((rd_T36 x10 x11).f3) (rd x1 x13)).bind fun t634 => (moultlaw12_MergeNeeds.l1 k x1 x2 x8 x10 x11 t634 (wrap64 (x13 + 1)))) else (none)) else (none)) else (none)) else (none))) else (if (wrap64 (x11 + 1)) = (x10.length : Int) then (if x12 = true then (if x2 = true then (if 0 ≤ x11 then (if x11 < (x10.length : Int) then (if (rd_T36 x10 x11).f2 = true then (some false) else (moultlaw12_MergeNeeds.l0 k x1 x2 x8 x10 (wrap64 (x11 + 1)))) else (none)) else (none)) else (moultlaw12_MergeNeeds.l0 k x1 x2 x8 x10 (wrap64 (x11 + 1)))) else (some false)) else (if 0 ≤ (wrap64 (x11 + 1)) then (if (wrap64 (x11 + 1)) < (x10.length : Int) then (if 0 ≤ x11 then (if x11 < (x10.length : Int) then (if x12 = true then (if x2 = true then (if ((rd_T36 x10 (wrap64 (x11 + 1))).f0).toList = ((rd_T36 x10 x11).f0).toList then (moultlaw12_MergeNeeds.l0 k x1 x2 x8 x10 (wrap64 (x11 + 1))) else (if (rd_T36 x10 x11).f2 = true then (some false) else (moultlaw12_MergeNeeds.l0 k x1 x2 x8 x10 (wrap64 (x11 + 1))))) else (moultlaw12_MergeNeeds.l0 k x1 x2 x8 x10 (wrap64 (x11 + 1)))) else (some false)) else (none)) else (none)) else (none)) else (none)))
end
def moultlaw12_MergeNeeds.f (k : Nat) (l0 : List (S36)) (l1 : List Int) (a2 : Bool) : Option (Bool) := (moultlaw12_shown.f k).bind fun t616 => ((moultlaw12_rows.f k (([l0] : List (List (S36))))).bind fun bt620 => (if t616 = true then (if bt620.2 = true then (moultlaw12_MergeNeeds.j0 k l1 a2 t616 bt620.1 (decide ((l1.length : Int) > 20))) else (moultlaw12_MergeNeeds.j0 k l1 a2 t616 bt620.1 true)) else (moultlaw12_MergeNeeds.j0 k l1 a2 t616 bt620.1 true)))
theorem moultlaw12_MergeNeeds.mono_l : ∀ k, (∀ y0 y1 y2 y3 y4, LeO (moultlaw12_MergeNeeds.j0 k y0 y1 y2 y3 y4) (moultlaw12_MergeNeeds.j0 (k + 1) y0 y1 y2 y3 y4)) ∧ (∀ y0 y1 y2 y3 y4, LeO (moultlaw12_MergeNeeds.l0 k y0 y1 y2 y3 y4) (moultlaw12_MergeNeeds.l0 (k + 1) y0 y1 y2 y3 y4)) ∧ (∀ y0 y1 y2 y3 y4 y5 y6, LeO (moultlaw12_MergeNeeds.l1 k y0 y1 y2 y3 y4 y5 y6) (moultlaw12_MergeNeeds.l1 (k + 1) y0 y1 y2 y3 y4 y5 y6))
 | 0 => ⟨fun _ _ _ _ _ r h => by simp [moultlaw12_MergeNeeds.j0] at h, fun _ _ _ _ _ r h => by simp [moultlaw12_MergeNeeds.l0] at h, fun _ _ _ _ _ _ _ r h => by simp [moultlaw12_MergeNeeds.l1] at h⟩
 | k + 1 => by
  obtain ⟨ih0, ih1, ih2⟩ := moultlaw12_MergeNeeds.mono_l k
  refine ⟨?_, ?_, ?_⟩
  ·intro y0 y1 y2 y3 y4
   unfold moultlaw12_MergeNeeds.j0
   repeat' first
   | (with_reducible exact ih0 _ _ _ _ _)
   | (with_reducible exact ih1 _ _ _ _ _)
   | (with_reducible exact ih2 _ _ _ _ _ _ _)
   | (with_reducible exact merge_Thin.mono _ _ _ _)
   | (with_reducible exact moultlaw12_newest.mono _ _ _ _ _ _ _)
   | (with_reducible exact moultlaw12_rows.mono _ _)
   | (with_reducible exact moultlaw12_shown.mono _)
   | (with_reducible exact LeO.refl _)
   | (with_reducible exact LeO.none _)
   | (with_reducible refine LeO.ite ?_ ?_)
   | (with_reducible refine LeO.bind ?_ (fun _ => ?_))
   | exact ih0 _ _ _ _ _
   | exact ih1 _ _ _ _ _
   | exact ih2 _ _ _ _ _ _ _
   | exact merge_Thin.mono _ _ _ _
   | exact moultlaw12_newest.mono _ _ _ _ _ _ _
   | exact moultlaw12_rows.mono _ _
   | exact moultlaw12_shown.mono _
   | exact LeO.none _
   | refine LeO.ite ?_ ?_
   | refine LeO.bind ?_ (fun _ => ?_)
  ·intro y0 y1 y2 y3 y4
   unfold moultlaw12_MergeNeeds.l0
   repeat' first
   | (with_reducible exact ih0 _ _ _ _ _)
   | (with_reducible exact ih1 _ _ _ _ _)
   | (with_reducible exact ih2 _ _ _ _ _ _ _)
   | (with_reducible exact merge_Thin.mono _ _ _ _)
   | (with_reducible exact moultlaw12_newest.mono _ _ _ _ _ _ _)
   | (with_reducible exact moultlaw12_rows.mono _ _)
   | (with_reducible exact moultlaw12_shown.mono _)
   | (with_reducible exact LeO.refl _)
   | (with_reducible exact LeO.none _)
   | (with_reducible refine LeO.ite ?_ ?_)
   | (with_reducible refine LeO.bind ?_ (fun _ => ?_))
   | exact ih0 _ _ _ _ _
   | exact ih1 _ _ _ _ _
   | exact ih2 _ _ _ _ _ _ _
   | exact merge_Thin.mono _ _ _ _
   | exact moultlaw12_newest.mono _ _ _ _ _ _ _
   | exact moultlaw12_rows.mono _ _
   | exact moultlaw12_shown.mono _
   | exact LeO.none _
   | refine LeO.ite ?_ ?_
   | refine LeO.bind ?_ (fun _ => ?_)
  ·intro y0 y1 y2 y3 y4 y5 y6
   unfold moultlaw12_MergeNeeds.l1
   repeat' first
   | (with_reducible exact ih0 _ _ _ _ _)
   | (with_reducible exact ih1 _ _ _ _ _)
   | (with_reducible exact ih2 _ _ _ _ _ _ _)
   | (with_reducible exact merge_Thin.mono _ _ _ _)
   | (with_reducible exact moultlaw12_newest.mono _ _ _ _ _ _ _)
   | (with_reducible exact moultlaw12_rows.mono _ _)
   | (with_reducible exact moultlaw12_shown.mono _)
   | (with_reducible exact LeO.refl _)
   | (with_reducible exact LeO.none _)
   | (with_reducible refine LeO.ite ?_ ?_)
   | (with_reducible refine LeO.bind ?_ (fun _ => ?_))
   | exact ih0 _ _ _ _ _
   | exact ih1 _ _ _ _ _
   | exact ih2 _ _ _ _ _ _ _
   | exact merge_Thin.mono _ _ _ _
   | exact moultlaw12_newest.mono _ _ _ _ _ _ _
   | exact moultlaw12_rows.mono _ _
   | exact moultlaw12_shown.mono _
   | exact LeO.none _
   | refine LeO.ite ?_ ?_
   | refine LeO.bind ?_ (fun _ => ?_)
theorem moultlaw12_MergeNeeds.mono : ∀ a0 a1 a2 k, LeO (moultlaw12_MergeNeeds.f k a0 a1 a2) (moultlaw12_MergeNeeds.f (k + 1) a0 a1 a2) := by
 intro a0 a1 a2 k
 obtain ⟨ih0, ih1, ih2⟩ := moultlaw12_MergeNeeds.mono_l k
 unfold moultlaw12_MergeNeeds.f
 repeat' first
   | (with_reducible exact ih0 _ _ _ _ _)
   | (with_reducible exact ih1 _ _ _ _ _)
   | (with_reducible exact ih2 _ _ _ _ _ _ _)
   | (with_reducible exact merge_Thin.mono _ _ _ _)
   | (with_reducible exact moultlaw12_newest.mono _ _ _ _ _ _ _)
   | (with_reducible exact moultlaw12_rows.mono _ _)
   | (with_reducible exact moultlaw12_shown.mono _)
   | (with_reducible exact LeO.refl _)
   | (with_reducible exact LeO.none _)
   | (with_reducible refine LeO.ite ?_ ?_)
   | (with_reducible refine LeO.bind ?_ (fun _ => ?_))
   | exact ih0 _ _ _ _ _
   | exact ih1 _ _ _ _ _
   | exact ih2 _ _ _ _ _ _ _
   | exact merge_Thin.mono _ _ _ _
   | exact moultlaw12_newest.mono _ _ _ _ _ _ _
   | exact moultlaw12_rows.mono _ _
   | exact moultlaw12_shown.mono _
   | exact LeO.none _
   | refine LeO.ite ?_ ?_
   | refine LeO.bind ?_ (fun _ => ?_)
def moultlaw12_MergeNeeds.T9 : Bool × List (List Nat × List Nat) := (true, [([], []), ([0], [0]), ([1], [1]), ([], []), ([], []), ([3, 4], [3, 4]), ([5], [5]), ([2, 6], [2, 6]), ([7, 7, 0, 1, 2, 3, 4, 5, 6, 7], [7])])
def moultlaw12_MergeNeeds.B9 : List Nat := [0, 1, 3, 0, 0, 24, 56, 127, 255]
theorem moultlaw12_MergeNeeds.tab9 : rtab .any (opsOf Try.f8 9) = moultlaw12_MergeNeeds.T9 := by kernel_rfl
theorem moultlaw12_MergeNeeds.bits9 : waitsOk moultlaw12_MergeNeeds.T9.2 moultlaw12_MergeNeeds.B9 = true := by kernel_rfl
def moultlaw12_MergeNeeds.T13 : Bool × List (List Nat × List Nat) := (true, [([], []), ([0], [0]), ([1], [1]), ([2, 1], [1, 2]), ([3, 1], [1, 3]), ([1], [1]), ([1], [1]), ([5, 6, 1], [1, 5, 6]), ([7, 1], [1, 7]), ([1], [1]), ([1], [1]), ([9, 10, 1], [1, 9, 10]), ([11, 1], [1, 11]), ([4, 8, 12, 1, 1], [1, 4, 8, 12]), ([1, 13], [1, 13]), ([14, 13, 0, 1, 2, 3, 4, 5, 6, 7, 8, 9, 10, 11, 12, 13, 14], [0, 14])])
def moultlaw12_MergeNeeds.B13 : List Nat := [0, 1, 3, 7, 15, 3, 3, 99, 227, 3, 3, 1539, 3587, 8191, 16383, 32767]
theorem moultlaw12_MergeNeeds.tab13 : rtab .any (opsOf Try.f8 13) = moultlaw12_MergeNeeds.T13 := by kernel_rfl
theorem moultlaw12_MergeNeeds.bits13 : waitsOk moultlaw12_MergeNeeds.T13.2 moultlaw12_MergeNeeds.B13 = true := by kernel_rfl
def moultlaw12_MergeNeeds.T14 : Bool × List (List Nat × List Nat) := (true, [([], []), ([0], [0]), ([], []), ([2], [2]), ([1, 3], [1, 3]), ([4], [4]), ([5], [5]), ([5], [5]), ([7, 5], [5, 7]), ([6, 8, 5], [5, 6, 8]), ([9, 5], [5, 9]), ([10, 5], [5, 10]), ([5], [5]), ([5], [5]), ([12, 13, 5], [5, 12, 13]), ([14, 5], [5, 14]), ([15, 5], [5, 15]), ([11, 16, 5], [5, 11, 16]), ([5, 17], [5, 17]), ([18, 5, 0, 1, 2, 3, 4, 5, 6, 7, 8, 9, 10, 11, 12, 13, 14, 15, 16, 17, 18], [18])])
def moultlaw12_MergeNeeds.B14 : List Nat := [0, 1, 0, 4, 15, 31, 63, 63, 191, 511, 1023, 2047, 63, 63, 12351, 28735, 61503, 131071, 262143, 524287]
theorem moultlaw12_MergeNeeds.tab14 : rtab .any (opsOf Try.f8 14) = moultlaw12_MergeNeeds.T14 := by kernel_rfl
theorem moultlaw12_MergeNeeds.bits14 : waitsOk moultlaw12_MergeNeeds.T14.2 moultlaw12_MergeNeeds.B14 = true := by kernel_rfl
set_option maxHeartbeats 8000000 in
set_option maxRecDepth 100000 in
theorem moultlaw12_MergeNeeds.calls (k : Nat) (P0_ : Nat → Prop) (A0 : Option Addr) (c0 : Nat) (l0 : List (S36)) (A1 : Option Addr) (c1 : Nat) (l1 : List Int) (a2 : Bool) (r : Bool) (w : World) (hs0 : Kd.V k36 36 w w.heap.size (fun k_ => P0_ k_) (.slice A0 l0.length c0) l0) (hr1 : Kd.C (Kd.int .i64) w A1 l1.length l1) (hc1 : l1.length ≤ c1) (h : moultlaw12_MergeNeeds.f k l0 l1 a2 = some r) :
  Calls Try.prog 8 #[.slice A0 l0.length c0, .slice A1 l1.length c1, .bool a2] w fun e w' => e = .returned (.bool r) ∧ Below w.heap.size w w' := by
 have hu36 := Try.underlying36
 have HO0 := Aside0.mk (show Kd.V k36 36 w w.heap.size (fun k_ => (P0_ k_ ∨ w.heap.size ≤ k_)) (.slice A0 l0.length c0) l0 from Kd.V_mono hs0 (fun k_ hk => .inl hk))
 have HR1 := Aside0.mk hr1
 have HC1 := Aside0.mk hc1
 clear hr1 hc1
 have HB := Aside0.mk (Below.refl w.heap.size w)
 have H : ((moultlaw12_shown.f k).bind fun t616 => ((moultlaw12_rows.f k (([l0] : List (List (S36))))).bind fun bt620 => (if t616 = true then (if bt620.2 = true then (moultlaw12_MergeNeeds.j0 k l1 a2 t616 bt620.1 (decide ((l1.length : Int) > 20))) else (moultlaw12_MergeNeeds.j0 k l1 a2 t616 bt620.1 true)) else (moultlaw12_MergeNeeds.j0 k l1 a2 t616 bt620.1 true)))) = some r := h
 clear h
 replace H := Option.bind_eq_some_iff.mp H
 obtain ⟨t616, A40, H⟩ := H
 replace H : ((moultlaw12_rows.f k (([l0] : List (List (S36))))).bind fun bt620 => (if t616 = true then (if bt620.2 = true then (moultlaw12_MergeNeeds.j0 k l1 a2 t616 bt620.1 (decide ((l1.length : Int) > 20))) else (moultlaw12_MergeNeeds.j0 k l1 a2 t616 bt620.1 true)) else (moultlaw12_MergeNeeds.j0 k l1 a2 t616 bt620.1 true))) = some r := H
 have A4 := Aside0.mk A40
 clear A40
 obtain ⟨y617, hy617⟩ : ∃ y_ : List (List (S36)), y_ = (([l0] : List (List (S36)))) := ⟨_, rfl⟩
 replace H : ((moultlaw12_rows.f k y617).bind fun bt620 => (if t616 = true then (if bt620.2 = true then (moultlaw12_MergeNeeds.j0 k l1 a2 t616 bt620.1 (decide ((l1.length : Int) > 20))) else (moultlaw12_MergeNeeds.j0 k l1 a2 t616 bt620.1 true)) else (moultlaw12_MergeNeeds.j0 k l1 a2 t616 bt620.1 true))) = some r := by first | (rw [hy617]; with_reducible exact H) | (have H2_ := (Option.bind_some _ _).symm.trans H; rw [hy617]; with_reducible exact H2_) | (have H2_ := (Option.bind_some _ _).symm.trans H; with_reducible exact H2_) | with_reducible exact H | (rw [hy617]; exact H) | exact H
 have Ny617 := Aside0.mk hy617
 clear hy617
 replace H := Option.bind_eq_some_iff.mp H
 obtain ⟨⟨t620, t623⟩, A50, H⟩ := H
 replace H : (if t616 = true then (if t623 = true then (moultlaw12_MergeNeeds.j0 k l1 a2 t616 t620 (decide ((l1.length : Int) > 20))) else (moultlaw12_MergeNeeds.j0 k l1 a2 t616 t620 true)) else (moultlaw12_MergeNeeds.j0 k l1 a2 t616 t620 true)) = some r := H
 have A5 := Aside0.mk A50
 clear A50
 have HC6 := Aside0.mk H
 clear H
 go_enter Try.func8, Try.ntmps8
 go_upto_region 3 with (first | ((with_reducible refine gate_callee (f := 9) rfl ?_); refine goesL_ (some 15) rfl rfl Try.func9 (by kernel_rfl) rfl #[] rfl (by (try simp only [List.map_toArray, List.map_cons, List.map_nil]); first | done | rfl | (simp only [List.length_drop, List.length_take]; rfl)) ?_; (with_reducible refine (moultlaw12_shown.calls k  t616 _ A4.out).mono ?_); rintro e w7 ⟨rfl, hb⟩; refine ⟨_, rfl, ?_⟩; have n0_ := Aside0.mk (Kd.V_below (by (with_reducible repeat (first | apply Kd.V_alloc | apply Kd.V_drewN | apply Kd.V_drew)); exact HO0.out) hb); have n1_ := Aside0.mk (below_step (by repeat (first | (with_reducible first | exact HB.out | apply below_alloc | apply pw_below_drewN | apply below_drew1) | exact HB.out)) hb); clear HO0; clear HB; have HO0 := n0_; have HB := n1_; clear n0_ n1_; (try clear hb); (try clear hb2); (try clear hk); (try clear hi)) | ((with_reducible refine gate_dst (N := 18) rfl ?_); (try (refine gate_guard (by rfl) ?_; dsimp only)); refine Kd.N_lit (Kd.slice 36 k36) _ 27 ?hg (N' := 18) ?hd (xs := ([l0] : List (List (S36)))) (inner := [.slice A0 l0.length c0]) (ok := (fun k_ => (P0_ k_ ∨ w.heap.size ≤ k_))) (okp := (fun k_ => (P0_ k_ ∨ w.heap.size ≤ k_))) ?hr ?hp (fun _ hk => hk) ((show ∀ k_, w7.heap.size ≤ k_ → (fun k_ => (P0_ k_ ∨ w.heap.size ≤ k_)) k_ from fun k_ hk => (.inr (Nat.le_trans (below_size (by repeat (first | (with_reducible first | exact HB.out | apply below_alloc | apply pw_below_drewN | apply below_drew1) | exact HB.out))) hk))) _ (Nat.le_refl _)) (Below.refl _ _) (Nat.le_refl _) (by simp) ?_; (case hd => rfl); (case hg => rfl); (case hr => first | (go_simp; done) | (go_simp; rfl)); (case hp => first | exact (Reps.one (show Kd.FK (Kd.slice 36 k36) _ _ l0 [.slice A0 l0.length c0] from (Kd.FK_slice_mk (Kd.V_reads' (Kd.V_mono (ok' := (fun k_ => (P0_ k_ ∨ w.heap.size ≤ k_))) (HO0.out) (fun k_ hk => hk))).2.1 (Kd.V_F (Kd.V_mono (ok' := (fun k_ => (P0_ k_ ∨ w.heap.size ≤ k_))) (HO0.out) (fun k_ hk => hk))))) (Reps.none _ _)) | exact (Reps.one (show Kd.FK (Kd.slice 36 k36) _ _ l0 [.slice A0 l0.length c0] from (Kd.FK_slice_mk (Kd.V_reads' (Kd.V_mono (ok' := (fun k_ => (P0_ k_ ∨ w.heap.size ≤ k_))) (HO0.out) (fun k_ hk => hk))).2.1 (Kd.V_F (Kd.V_mono (ok' := (fun k_ => (P0_ k_ ∨ w.heap.size ≤ k_))) (Kd.V_drewN HO0.out _) (fun k_ hk => hk))))) (Reps.none _ _))); intro v618 w8 ho9 hb hg_ hnew_; clear hg_ hnew_; (first | rw [← Ny617.out] at ho9 | (simp only [Int.reduceToNat] at ho9; rw [← Ny617.out] at ho9)); have n0_ := Aside0.mk (Kd.V_elder' (by (with_reducible repeat (first | apply Kd.V_alloc | apply Kd.V_drewN | apply Kd.V_drew)); exact HO0.out) (Kd.N_base ho9) hb); have n1_ := Aside0.mk (Kd.N_lower ho9 (below_size (by repeat (first | (with_reducible first | exact HB.out | apply below_alloc | apply pw_below_drewN | apply below_drew1) | exact HB.out)))); have n2_ := Aside0.mk (below_step (by repeat (first | (with_reducible first | exact HB.out | apply below_alloc | apply pw_below_drewN | apply below_drew1) | exact HB.out)) hb); clear HO0; clear HB; have HO0 := n0_; have HO619 := n1_; have HB := n2_; clear n0_ n1_ n2_; clear hb ho9; obtain ⟨Ao10, co10, eo10⟩ := Kd.N_slice HO619.out; subst eo10) | ((with_reducible refine gate_callee (f := 10) rfl ?_); refine goesL_ (some 19) rfl rfl Try.func10 (by kernel_rfl) rfl #[.slice Ao10 y617.length co10] rfl (by (try simp only [List.map_toArray, List.map_cons, List.map_nil]); first | done | rfl | (simp only [List.length_drop, List.length_take]; rfl)) ?_; (with_reducible refine (moultlaw12_rows.calls k (fun k_ => (P0_ k_ ∨ w.heap.size ≤ k_)) _ _ y617 t620 t623 _ ?side1 A5.out).mono ?_); (case side1 => exact Kd.N_V (HO619.out)); rintro e w11 ⟨v621, rfl, ho0, hb⟩; refine ⟨_, rfl, ?_⟩; have n0_ := Aside0.mk (Kd.V_elder' (by (with_reducible repeat (first | apply Kd.V_alloc | apply Kd.V_drewN | apply Kd.V_drew)); exact HO0.out) (Kd.N_base ho0) hb); have n1_ := Aside0.mk (Kd.N_elder' (by (with_reducible repeat (first | apply Kd.N_alloc | apply Kd.N_drewN | apply Kd.N_drew)); exact HO619.out) (Kd.N_base ho0) hb); have n2_ := Aside0.mk (Kd.N_lower (Kd.N_mono (ok' := fun k_ => (P0_ k_ ∨ w.heap.size ≤ k_)) ho0 (fun k_ hk_ => Or.elim hk_ (fun hs_ => hs_) (fun hn_ => (.inr (Nat.le_trans (below_size (by repeat (first | (with_reducible first | exact HB.out | apply below_alloc | apply pw_below_drewN | apply below_drew1) | exact HB.out))) hn_))))) (below_size (by repeat (first | (with_reducible first | exact HB.out | apply below_alloc | apply pw_below_drewN | apply below_drew1) | exact HB.out)))); have n3_ := Aside0.mk (below_step (by repeat (first | (with_reducible first | exact HB.out | apply below_alloc | apply pw_below_drewN | apply below_drew1) | exact HB.out)) hb); clear HO0; clear HO619; clear HB; have HO0 := n0_; have HO619 := n1_; have HO622 := n2_; have HB := n3_; clear n0_ n1_ n2_ n3_; (try clear hb); (try clear hb2); (try clear hk); (try clear hi); (try clear ho0)))
 (try simp only [Act.put, List.setIfInBounds_toArray, List.set_cons_zero, List.set_cons_succ])
 go_cut [32] (fun v32 wc => ∃ (kq : Nat) (x32_5 : Bool), v32 = .bool x32_5 ∧ Aside0 (moultlaw12_MergeNeeds.j0 kq l1 a2 t616 t620 x32_5 = some r) ∧ Aside0 (kq ≤ k) ∧ Aside0 (Kd.N (Kd.slice 36 k36) 27 wc w.heap.size (fun k_ => (P0_ k_ ∨ w.heap.size ≤ k_)) v621 t620) ∧ Aside0 (Below w.heap.size w wc))
 case first =>
  have H := HC6.out
  clear HC6
  by_cases c12 : t616 = true
  ·subst c12
   have H1 : (if t623 = true then (moultlaw12_MergeNeeds.j0 k l1 a2 true t620 (decide ((l1.length : Int) > 20))) else (moultlaw12_MergeNeeds.j0 k l1 a2 true t620 true)) = some r := by rw [if_pos rfl] at H; exact H
   clear H
   have H := H1
   clear H1
   by_cases c13 : t623 = true
   ·subst c13
    have H1 : (moultlaw12_MergeNeeds.j0 k l1 a2 true t620 (decide ((l1.length : Int) > 20))) = some r := by rw [if_pos rfl] at H; exact H
    clear H
    have H := H1
    clear H1
    have H' := Aside0.mk H
    clear H
    go_wp2
    go_meet
    case rel => exact ⟨_, (decide ((l1.length : Int) > 20)), (by first | rfl | (simp; done) | (simp [*]; done)), H', ⟨by first | omega | exact Nat.le_refl _⟩, ⟨by (with_reducible repeat (first | apply Kd.N_alloc | apply Kd.N_drewN | apply Kd.N_drew)); exact HO622.out⟩, ⟨by repeat (first | (with_reducible first | exact HB.out | apply below_alloc | apply pw_below_drewN | apply below_drew1) | exact HB.out)⟩⟩
   ·replace c13 := Bool.eq_false_iff.mpr c13
    subst c13
    have H1 : (moultlaw12_MergeNeeds.j0 k l1 a2 true t620 true) = some r := by rw [if_neg (show ¬ (false = true) by decide)] at H; exact H
    clear H
    have H := H1
    clear H1
    have H' := Aside0.mk H
    clear H
    go_wp2
    go_meet
    case rel => exact ⟨_, (true), (by first | rfl | (simp; done) | (simp [*]; done)), H', ⟨by first | omega | exact Nat.le_refl _⟩, ⟨by (with_reducible repeat (first | apply Kd.N_alloc | apply Kd.N_drewN | apply Kd.N_drew)); exact HO622.out⟩, ⟨by repeat (first | (with_reducible first | exact HB.out | apply below_alloc | apply pw_below_drewN | apply below_drew1) | exact HB.out)⟩⟩
  ·replace c12 := Bool.eq_false_iff.mpr c12
   subst c12
   have H1 : (moultlaw12_MergeNeeds.j0 k l1 a2 false t620 true) = some r := by rw [if_neg (show ¬ (false = true) by decide)] at H; exact H
   clear H
   have H := H1
   clear H1
   have H' := Aside0.mk H
   clear H
   go_wp2
   go_meet
   case rel => exact ⟨_, (true), (by first | rfl | (simp; done) | (simp [*]; done)), H', ⟨by first | omega | exact Nat.le_refl _⟩, ⟨by (with_reducible repeat (first | apply Kd.N_alloc | apply Kd.N_drewN | apply Kd.N_drew)); exact HO622.out⟩, ⟨by repeat (first | (with_reducible first | exact HB.out | apply below_alloc | apply pw_below_drewN | apply below_drew1) | exact HB.out)⟩⟩
 case rest =>
  clear HC6
  try clear c1
  try clear p2
  try clear c8
  try clear c9
  try clear c10
  try clear c12
  try clear c13
  obtain ⟨kq, x32_5, rfl, HA, HJ5, HO_8, HB⟩ := hcut
  cases kq with
  | zero => exact absurd HA.out (by simp [moultlaw12_MergeNeeds.j0])
  | succ kj5 =>
   have H := HA.out
   clear HA
   simp only [moultlaw12_MergeNeeds.j0] at H
   by_cases c14 : x32_5 = true
   ·subst c14
    have H1 : (some t616) = some r := by rw [if_pos rfl] at H; exact H
    clear H
    have H := H1
    clear H1
    obtain rfl := Option.some.inj H
    go_wp2
    go_ret
    exact ⟨by first | rfl | (simp [errW_none, errW_some] <;> rfl) | (simp [*, errW_none, errW_some] <;> rfl), by repeat (first | (with_reducible first | exact HB.out | apply below_alloc | apply pw_below_drewN | apply below_drew1) | exact HB.out)⟩
   ·replace c14 := Bool.eq_false_iff.mpr c14
    subst c14
    have H1 : (if 0 < (t620.length : Int) then ((merge_Thin.f kj5 (rd_L4 t620 0) l1 a2).bind fun t625 => (moultlaw12_MergeNeeds.l0 kj5 l1 a2 t620 t625 0)) else (none)) = some r := by rw [if_neg (show ¬ (false = true) by decide)] at H; exact H
    clear H
    have H := H1
    clear H1
    by_cases c15 : 0 < (t620.length : Int)
    ·rw [if_pos c15] at H
     have c15b0 : decide (0 < (t620.length : Int)) = true := decide_eq_true c15
     have c15b1 : decide (0 < t620.length) = true := decide_eq_true (by omega)
     clear c15
     replace H := Option.bind_eq_some_iff.mp H
     obtain ⟨t625, A160, H⟩ := H
     replace H : (moultlaw12_MergeNeeds.l0 kj5 l1 a2 t620 t625 0) = some r := H
     have A16 := Aside0.mk A160
     clear A160
     have H' := Aside0.mk H
     clear H
     obtain ⟨Ao17, co17, eo17⟩ := Kd.N_slice HO_8.out
     subst eo17
     have p624 : 0 ≤ (0 : Int) := (by omega)
     have q624 : 0 < (t620.length : Int) := of_decide_eq_true (by first | (with_reducible assumption) | assumption)
     obtain ⟨ad624, A624_0, c624_0, e624, hx624_0, hl624_0, hi624_0⟩ := at_L4 (Kd.N_reads' HO_8.out).2.2 0 p624 q624
     cases e624
     obtain ⟨ce624, hce624, hMe624, hcc624⟩ := Kd.N_get HO_8.out [] 0 p624 (by first | exact q624 | exact of_decide_eq_true (by first | (with_reducible assumption) | assumption) | (have e_ := (Kd.N_reads' HO_8.out).1; omega))
     obtain ⟨ua624_0, uc624_0, rfl, ul624_0, ge624_0⟩ := Kd.FK_slice_open hMe624
     have hv624_0 := hcc624 0 _ rfl
     rw [Nat.add_zero, show ((Kd.slice 36 k36)).sz = 1 from rfl, Nat.mul_one] at hv624_0
     replace hv624_0 := Option.some.inj (hv624_0.symm.trans hx624_0)
     injection hv624_0 with hva_ hvn_ hvc_
     rw [hva_] at ge624_0
     rw [hvc_] at ul624_0
     have HL624_0 := Aside0.mk (show Kd.V k36 36 _ w.heap.size _ _ (rd_L4 t620 0) from Kd.V_mk ul624_0 ge624_0)
     clear hva_ hvn_ hvc_ ge624_0 ul624_0
     clear hcc624 hce624
     have qi624 : (0 < t620.length) = True := eq_true (by omega)
     (try rw [show ((0 : Int)).toNat = 0 from rfl] at hx624_0)
     (try rw [Addr.add_zero'] at hx624_0)
     have HR624_0 := Aside0.mk hi624_0
     have HC624_0 := Aside0.mk hl624_0
     clear hi624_0 hl624_0
     replace p624 := eq_true p624
     replace q624 := eq_true q624
     go_wp2_with (first | ((with_reducible refine gate_callee (f := 16) rfl ?_); refine goesL_ (some 39) rfl rfl Try.func16 (by kernel_rfl) rfl #[.slice A624_0 (rd_L4 t620 0).length c624_0, .slice A1 l1.length c1, .bool a2] rfl (by (try simp only [List.map_toArray, List.map_cons, List.map_nil]); first | done | rfl | (simp only [List.length_drop, List.length_take]; rfl)) ?_; (with_reducible refine (merge_Thin.calls kj5 _ _ (rd_L4 t620 0) _ _ l1 a2 t625 _ ?side1 ?side2 ?side3 ?side4 A16.out).mono ?_); (case side1 => repeat (first | exact (by repeat (first | (with_reducible exact HR624_0.out) | (with_reducible refine Kd.C_alloc ?_ _) | (with_reducible refine Kd.C_drewN ?_ _) | (with_reducible refine Kd.C_drew ?_) | exact HR624_0.out)) | (with_reducible refine Kd.C_alloc ?_ _) | (with_reducible refine Kd.C_drewN ?_ _) | (with_reducible refine Kd.C_drew ?_))); (case side2 => exact HC624_0.out); (case side3 => repeat (first | exact (Kd.C_below HR1.out HB.out) | (with_reducible refine Kd.C_alloc ?_ _) | (with_reducible refine Kd.C_drewN ?_ _) | (with_reducible refine Kd.C_drew ?_))); (case side4 => exact HC1.out); rintro e w18 ⟨v626, rfl, ho0, hb⟩; refine ⟨_, rfl, ?_⟩; have n0_ := Aside0.mk (Kd.N_elder' (by (with_reducible repeat (first | apply Kd.N_alloc | apply Kd.N_drewN | apply Kd.N_drew)); exact HO_8.out) (Kd.R_base ho0) hb); have n1_ := Aside0.mk (Kd.V_elder' (by (with_reducible repeat (first | apply Kd.V_alloc | apply Kd.V_drewN | apply Kd.V_drew)); exact HL624_0.out) (Kd.R_base ho0) hb); have n2_ := Aside0.mk (Kd.R_lower (Kd.R_newM (M := fun k_ => (w.heap.size ≤ k_)) ho0 (below_size (by repeat (first | (with_reducible first | exact HB.out | apply below_alloc | apply pw_below_drewN | apply below_drew1) | exact HB.out))) (fun k_ h_ => h_)) (below_size (by repeat (first | (with_reducible first | exact HB.out | apply below_alloc | apply pw_below_drewN | apply below_drew1) | exact HB.out)))); have n3_ := Aside0.mk (Kd.C_below (by repeat (first | (with_reducible exact HR624_0.out) | (with_reducible refine Kd.C_alloc ?_ _) | (with_reducible refine Kd.C_drewN ?_ _) | (with_reducible refine Kd.C_drew ?_) | exact HR624_0.out)) hb); have n4_ := Aside0.mk (below_step (by repeat (first | (with_reducible first | exact HB.out | apply below_alloc | apply pw_below_drewN | apply below_drew1) | exact HB.out)) hb); clear HO_8; clear HL624_0; clear HR624_0; clear HB; have HO_8 := n0_; have HL624_0 := n1_; have HO627 := n2_; have HR624_0 := n3_; have HB := n4_; clear n0_ n1_ n2_ n3_ n4_; (try clear hb); (try clear hb2); (try clear hk); (try clear hi); (try clear ho0)))
     go_loopg [11] kj5 (fun kq v11 w' => ∃ (x11_2 : Int), v11 = .int .i64 x11_2 ∧ Aside0 (moultlaw12_MergeNeeds.l0 kq l1 a2 t620 t625 x11_2 = some r) ∧ Aside0 (kq ≤ kj5) ∧ Aside0 (Kd.N (Kd.slice 36 k36) 27 w' w.heap.size (fun k_ => (P0_ k_ ∨ w.heap.size ≤ k_) ∧ some k_ ≠ (v626 : Value).ownBlock) (.slice (some ad624) t620.length co17) t620) ∧ Aside0 (Kd.R k36 36 w' w.heap.size (fun k_ => (w.heap.size ≤ k_)) v626 t625) ∧ Aside0 (Kd.C k36 w' A624_0 (rd_L4 t620 0).length (rd_L4 t620 0)) ∧ Aside0 (Below w.heap.size w w'))
     case atStart => exact ⟨(0), (by first | rfl | (simp; done) | (simp [*]; done)), H', ⟨Nat.le_refl _⟩, ⟨by (with_reducible repeat (first | apply Kd.N_alloc | apply Kd.N_drewN | apply Kd.N_drew)); exact HO_8.out⟩, ⟨by (with_reducible repeat (first | apply Kd.R_alloc | apply Kd.R_drewN | apply Kd.R_drew)); exact Kd.R_mono HO627.out (fun _ hk => hk.1)⟩, ⟨by repeat (first | (with_reducible exact HR624_0.out) | (with_reducible refine Kd.C_alloc ?_ _) | (with_reducible refine Kd.C_drewN ?_ _) | (with_reducible refine Kd.C_drew ?_) | exact HR624_0.out)⟩, ⟨by repeat (first | (with_reducible first | exact HB.out | apply below_alloc | apply pw_below_drewN | apply below_drew1) | exact HB.out)⟩⟩
     case round =>
      clear H'
      try clear c1
      try clear p2
      try clear c6
      try clear p6
      try clear q6
      try clear hx6
      try clear qi6
      try clear c8
      try clear c9
      try clear c10
      try clear c12
      try clear c13
      try clear c14
      try clear c15
      try clear c15b0
      try clear c15b1
      try clear c16
      try clear hx624_0
      try clear p2
      try clear p624
      try clear q624
      obtain ⟨x11_2, rfl, HA, HK2, HO_8, HO_10, HR624_0, HB⟩ := hrel
      cases gk with
      | zero => exact absurd HA.out (by simp [moultlaw12_MergeNeeds.l0])
      | succ k2 =>
       have H := HA.out
       clear HA
       simp only [moultlaw12_MergeNeeds.l0] at H
       by_cases c19 : x11_2 < (t625.length : Int)
       ·rw [if_pos c19] at H
        have c19b0 : decide (x11_2 < (t625.length : Int)) = true := decide_eq_true c19
        clear c19
        by_cases c20 : 0 < (t620.length : Int)
        ·rw [if_pos c20] at H
         have c20b0 : decide (0 < (t620.length : Int)) = true := decide_eq_true c20
         have c20b1 : decide (0 < t620.length) = true := decide_eq_true (by omega)
         clear c20
         by_cases c21 : 0 ≤ x11_2
         ·rw [if_pos c21] at H
          have c21b0 : decide (0 ≤ x11_2) = true := decide_eq_true c21
          clear c21
          replace H := Option.bind_eq_some_iff.mp H
          obtain ⟨t630, A220, H⟩ := H
          replace H : (moultlaw12_MergeNeeds.l1 k2 l1 a2 t620 t625 x11_2 t630 0) = some r := H
          have A22 := Aside0.mk A220
          clear A220
          have H' := Aside0.mk H
          clear H
          obtain ⟨Ao23, co23, eo23⟩ := Kd.R_slice HO_10.out
          subst eo23
          try go_wp2
          have n0_ := Aside0.mk (Kd.N_drew HO_8.out)
          have n1_ := Aside0.mk (Kd.R_drew HO_10.out)
          have n2_ := Aside0.mk (Kd.C_drew HR624_0.out)
          have n3_ := Aside0.mk (below_drew1 HB.out)
          clear HO_8
          clear HO_10
          clear HR624_0
          clear HB
          have HO_8 := n0_
          have HO_10 := n1_
          have HR624_0 := n2_
          have HB := n3_
          clear n0_ n1_ n2_ n3_
          have p628 : 0 ≤ (0 : Int) := (by omega)
          have q628 : 0 < (t620.length : Int) := of_decide_eq_true (by first | (with_reducible assumption) | assumption)
          obtain ⟨ad628, A628_0, c628_0, e628, hx628_0, hl628_0, hi628_0⟩ := at_L4 (Kd.N_reads' HO_8.out).2.2 0 p628 q628
          obtain rfl : ad624 = ad628 := (by injection e628)
          obtain ⟨ce628, hce628, hMe628, hcc628⟩ := Kd.N_get HO_8.out [] 0 p628 (by first | exact q628 | exact of_decide_eq_true (by first | (with_reducible assumption) | assumption) | (have e_ := (Kd.N_reads' HO_8.out).1; omega))
          obtain ⟨ua628_0, uc628_0, rfl, ul628_0, ge628_0⟩ := Kd.FK_slice_open hMe628
          have hv628_0 := hcc628 0 _ rfl
          rw [Nat.add_zero, show ((Kd.slice 36 k36)).sz = 1 from rfl, Nat.mul_one] at hv628_0
          replace hv628_0 := Option.some.inj (hv628_0.symm.trans hx628_0)
          injection hv628_0 with hva_ hvn_ hvc_
          rw [hva_] at ge628_0
          rw [hvc_] at ul628_0
          have HL628_0 := Aside0.mk (show Kd.V k36 36 _ w.heap.size _ _ (rd_L4 t620 0) from Kd.V_mk ul628_0 ge628_0)
          clear hva_ hvn_ hvc_ ge628_0 ul628_0
          clear hcc628 hce628
          have qi628 : (0 < t620.length) = True := eq_true (by omega)
          (try rw [show ((0 : Int)).toNat = 0 from rfl] at hx628_0)
          (try rw [Addr.add_zero'] at hx628_0)
          have HR628_0 := Aside0.mk hi628_0
          have HC628_0 := Aside0.mk hl628_0
          clear hi628_0 hl628_0
          replace p628 := eq_true p628
          replace q628 := eq_true q628
          have p629 : 0 ≤ (x11_2 : Int) := of_decide_eq_true (by first | (with_reducible assumption) | assumption)
          have q629 : x11_2 < (t625.length : Int) := of_decide_eq_true (by first | (with_reducible assumption) | assumption)
          obtain ⟨ad629, e629, hx629_0, hx629_1, hx629_2, hx629_3⟩ := at_T36 (Kd.R_reads' HO_10.out).2.2 x11_2 p629 q629
          cases e629
          replace p629 := eq_true p629
          replace q629 := eq_true q629
          refine start_ (n := 9) (S := fun w' => w'.cell? ad624 = some (.slice A628_0 (rd_L4 t620 0).length c628_0) ∧ w'.cell? (ad629.add ((x11_2).toNat * 4)) = some (.string ((rd_T36 t625 x11_2).f0)) ∧ w'.cell? ⟨(ad629.add ((x11_2).toNat * 4)).block, (ad629.add ((x11_2).toNat * 4)).off + 1, none⟩ = some (.int .i64 ((rd_T36 t625 x11_2).f1)) ∧ w'.cell? ⟨(ad629.add ((x11_2).toNat * 4)).block, (ad629.add ((x11_2).toNat * 4)).off + 2, none⟩ = some (.bool ((rd_T36 t625 x11_2).f2)) ∧ w'.cell? ⟨(ad629.add ((x11_2).toNat * 4)).block, (ad629.add ((x11_2).toNat * 4)).off + 3, none⟩ = some (.string ((rd_T36 t625 x11_2).f3))) (ds := []) #[ff, ff, ff, ff, ff, ff, ff, ff, ff] (by kernel_rfl) rfl rfl ⟨hx628_0, hx629_0, hx629_1, hx629_2, hx629_3⟩ (fun hHeld => ?_); refine with_tabW moultlaw12_MergeNeeds.tab9 moultlaw12_MergeNeeds.bits9 (fun HT_ HW_ => ?_)
          generalize wr.drew = w24 at HO_8 HO_10 HR624_0 HB HL628_0 HR628_0 hx628_0 hx629_0 hx629_1 hx629_2 hx629_3 hHeld ⊢
          refine pq_ (i := 0) (N := some 46) HT_ #[tt, ff, ff, ff, ff, ff, ff, ff, ff] ?_
          refine pq_ (i := 1) (N := some 47) HT_ #[tt, tt, ff, ff, ff, ff, ff, ff, ff] ?_
          refine pq_ (i := 3) (N := some 49) HT_ #[tt, tt, ff, tt, ff, ff, ff, ff, ff] ?_
          refine pq_ (i := 4) (N := some 50) HT_ #[tt, tt, ff, tt, tt, ff, ff, ff, ff] ?_
          refine pq_ (i := 5) (N := some 51) HT_ #[tt, tt, ff, tt, tt, tt, ff, ff, ff] ?_
          refine take_ (i := 2) (N := some 48) (v := ?_) (a' := ?_) #[tt, tt, tt, tt, tt, tt, ff, ff, ff] rfl rfl (take_ofW HT_.out HW_.out (by kernel_rfl)) (fun _ _ _ h => h) (Or.inl ⟨by rfl, ?_⟩) hHeld ?_ ?_
          rotate_left
          ·rintro w' ⟨s0, s1, s2, s3, s4⟩
           go_simp
           with_reducible rfl
          rotate_left
          ·simp only [Act.put, List.setIfInBounds_toArray, List.set_cons_zero, List.set_cons_succ, i64_w, i32_w]
           rfl
          refine take_ (i := 6) (N := some 52) (v := ?_) (a' := ?_) #[tt, tt, tt, tt, tt, tt, tt, ff, ff] rfl rfl (take_ofW HT_.out HW_.out (by kernel_rfl)) (fun _ _ _ h => h) (Or.inl ⟨by rfl, ?_⟩) hHeld ?_ ?_
          rotate_left
          ·rintro w' ⟨s0, s1, s2, s3, s4⟩
           go_simp
           with_reducible rfl
          rotate_left
          ·simp only [Act.put, List.setIfInBounds_toArray, List.set_cons_zero, List.set_cons_succ, i64_w, i32_w]
           rfl
          refine one_ (i := 7) (N := some 53) #[tt, tt, tt, tt, tt, tt, tt, tt, ff] rfl rfl (one_of HT_.out (by kernel_rfl)) (by decide) (fun K hK => ?_)
          refine goes_ Try.func23 (by kernel_rfl) rfl #[.slice A628_0 (rd_L4 t620 0).length c628_0, .agg #[.string ((rd_T36 t625 x11_2).f0), .int .i64 ((rd_T36 t625 x11_2).f1), .bool ((rd_T36 t625 x11_2).f2), .string ((rd_T36 t625 x11_2).f3)], .int .i64 1125899906842624] (by rfl) rfl rfl (by (try simp only [List.map_toArray, List.map_cons, List.map_nil]); first | done | rfl | (simp only [List.length_drop, List.length_take]; rfl)) ?_
          with_reducible refine (moultlaw12_newest.calls k2 _ _ (rd_L4 t620 0) ((rd_T36 t625 x11_2).f0) ((rd_T36 t625 x11_2).f1) ((rd_T36 t625 x11_2).f2) ((rd_T36 t625 x11_2).f3) 1125899906842624 t630 _ ?side1 ?side2 A22.out).mono ?_
          (case side1 => repeat (first | exact (by repeat (first | (with_reducible exact HR628_0.out) | (with_reducible refine Kd.C_alloc ?_ _) | (with_reducible refine Kd.C_drewN ?_ _) | (with_reducible refine Kd.C_drew ?_) | exact HR628_0.out)) | (with_reducible refine Kd.C_alloc ?_ _) | (with_reducible refine Kd.C_drewN ?_ _) | (with_reducible refine Kd.C_drew ?_)))
          (case side2 => exact HC628_0.out)
          rintro e w25 ⟨rfl, hb⟩
          have HS0_ := (hb.cell (World.block_lt_of_cell? _ _ (hHeld.1))).trans (hHeld.1)
          have HS1_ := (hb.cell (World.block_lt_of_cell? _ _ (hHeld.2.1))).trans (hHeld.2.1)
          have HS2_ := (hb.cell (World.block_lt_of_cell? _ _ (hHeld.2.2.1))).trans (hHeld.2.2.1)
          have HS3_ := (hb.cell (World.block_lt_of_cell? _ _ (hHeld.2.2.2.1))).trans (hHeld.2.2.2.1)
          have HS4_ := (hb.cell (World.block_lt_of_cell? _ _ (hHeld.2.2.2.2))).trans (hHeld.2.2.2.2)
          refine ⟨_, rfl, ?_⟩
          have n0_ := Aside0.mk (Kd.N_below (by (with_reducible repeat (first | apply Kd.N_alloc | apply Kd.N_drewN | apply Kd.N_drew)); exact HO_8.out) hb)
          have n1_ := Aside0.mk (Kd.R_below (by (with_reducible repeat (first | apply Kd.R_alloc | apply Kd.R_drewN | apply Kd.R_drew)); exact HO_10.out) hb)
          have n2_ := Aside0.mk (Kd.V_below (by (with_reducible repeat (first | apply Kd.V_alloc | apply Kd.V_drewN | apply Kd.V_drew)); exact HL628_0.out) hb)
          have n3_ := Aside0.mk (Kd.C_below (by repeat (first | (with_reducible exact HR624_0.out) | (with_reducible refine Kd.C_alloc ?_ _) | (with_reducible refine Kd.C_drewN ?_ _) | (with_reducible refine Kd.C_drew ?_) | exact HR624_0.out)) hb)
          have n4_ := Aside0.mk (Kd.C_below (by repeat (first | (with_reducible exact HR628_0.out) | (with_reducible refine Kd.C_alloc ?_ _) | (with_reducible refine Kd.C_drewN ?_ _) | (with_reducible refine Kd.C_drew ?_) | exact HR628_0.out)) hb)
          have n5_ := Aside0.mk (below_step (by repeat (first | (with_reducible first | exact HB.out | apply below_alloc | apply pw_below_drewN | apply below_drew1) | exact HB.out)) hb)
          clear HO_8
          clear HO_10
          clear HL628_0
          clear HR624_0
          clear HR628_0
          clear HB
          have HO_8 := n0_
          have HO_10 := n1_
          have HL628_0 := n2_
          have HR624_0 := n3_
          have HR628_0 := n4_
          have HB := n5_
          clear n0_ n1_ n2_ n3_ n4_ n5_
          (try clear hb)
          (try clear hb2)
          (try clear hk)
          (try clear hi)
          refine hK.out _ _ ⟨HS0_, HS1_, HS2_, HS3_, HS4_⟩ (fun hHeld => ?_)
          clear hK K
          refine norm_ (a' := ?_) ?_ ?_
          rotate_left
          ·show Act.put _ (some 53) _ = _
           simp only [Act.put, List.setIfInBounds_toArray, List.set_cons_zero, List.set_cons_succ, i64_w, i32_w]
           rfl
          refine pq_ (i := 8) (N := some 12) HT_ #[tt, tt, tt, tt, tt, tt, tt, tt, tt] ?_
          refine done_ (done_of HT_.out (by kernel_rfl)) ?_
          try go_wp2
          go_loopg [12, 13] k2 (fun kq v12 v13 w' => ∃ (x12_3 : Bool) (x13_3 : Int), v12 = .bool x12_3 ∧ v13 = .int .i64 x13_3 ∧ Aside0 (moultlaw12_MergeNeeds.l1 kq l1 a2 t620 t625 x11_2 x12_3 x13_3 = some r) ∧ Aside0 (kq ≤ k2) ∧ Aside0 (Kd.N (Kd.slice 36 k36) 27 w' w.heap.size (fun k_ => (P0_ k_ ∨ w.heap.size ≤ k_) ∧ some k_ ≠ ((.slice (some ad629) t625.length co23) : Value).ownBlock) (.slice (some ad624) t620.length co17) t620) ∧ Aside0 (Kd.R k36 36 w' w.heap.size (fun k_ => (w.heap.size ≤ k_)) (.slice (some ad629) t625.length co23) t625) ∧ Aside0 (Kd.C k36 w' A624_0 (rd_L4 t620 0).length (rd_L4 t620 0)) ∧ Aside0 (Kd.C k36 w' A628_0 (rd_L4 t620 0).length (rd_L4 t620 0)) ∧ Aside0 (Below w.heap.size w w'))
          case atStart => exact ⟨(t630), (0), (by first | rfl | (simp; done) | (simp [*]; done)), (by first | rfl | (simp; done) | (simp [*]; done)), H', ⟨Nat.le_refl _⟩, ⟨by (with_reducible repeat (first | apply Kd.N_alloc | apply Kd.N_drewN | apply Kd.N_drew)); exact HO_8.out⟩, ⟨by (with_reducible repeat (first | apply Kd.R_alloc | apply Kd.R_drewN | apply Kd.R_drew)); exact HO_10.out⟩, ⟨by repeat (first | (with_reducible exact HR624_0.out) | (with_reducible refine Kd.C_alloc ?_ _) | (with_reducible refine Kd.C_drewN ?_ _) | (with_reducible refine Kd.C_drew ?_) | exact HR624_0.out)⟩, ⟨by repeat (first | (with_reducible exact HR628_0.out) | (with_reducible refine Kd.C_alloc ?_ _) | (with_reducible refine Kd.C_drewN ?_ _) | (with_reducible refine Kd.C_drew ?_) | exact HR628_0.out)⟩, ⟨by repeat (first | (with_reducible first | exact HB.out | apply below_alloc | apply pw_below_drewN | apply below_drew1) | exact HB.out)⟩⟩
          case round =>
           clear H'
           try clear c1
           try clear c2
           try clear p2
           try clear c6
           try clear p6
           try clear q6
           try clear hx6
           try clear qi6
           try clear c8
           try clear c9
           try clear c10
           try clear c12
           try clear c13
           try clear c14
           try clear c15
           try clear c15b0
           try clear c15b1
           try clear c16
           try clear c19
           try clear c19b0
           try clear c20
           try clear c20b0
           try clear c20b1
           try clear c21
           try clear c21b0
           try clear c23
           try clear hx624_0
           try clear hx628_0
           try clear hx629_0
           try clear hx629_1
           try clear hx629_2
           try clear hx629_3
           try clear p2
           try clear p6
           try clear p624
           try clear p628
           try clear p629
           try clear q6
           try clear q624
           try clear q628
           try clear q629
           obtain ⟨x12_3, x13_3, rfl, rfl, HA, HK3, HO_8, HO_10, HR624_0, HR628_0, HB⟩ := hrel
           cases gk with
           | zero => exact absurd HA.out (by simp [moultlaw12_MergeNeeds.l1])
           | succ k3 =>
            have H := HA.out
            clear HA
            simp only [moultlaw12_MergeNeeds.l1] at H
            by_cases c26 : x13_3 < (l1.length : Int)
            ·rw [if_pos c26] at H
             have c26b0 : decide (x13_3 < (l1.length : Int)) = true := decide_eq_true c26
             clear c26
             by_cases c27 : x12_3 = true
             ·subst c27
              have H1 : (moultlaw12_MergeNeeds.l1 k3 l1 a2 t620 t625 x11_2 true (wrap64 (x13_3 + 1))) = some r := by rw [if_pos rfl] at H; exact H
              clear H
              have H := H1
              clear H1
              have H' := Aside0.mk H
              clear H
              try go_wp2
              have n0_ := Aside0.mk (Kd.N_drew HO_8.out)
              have n1_ := Aside0.mk (Kd.R_drew HO_10.out)
              have n2_ := Aside0.mk (Kd.C_drew HR624_0.out)
              have n3_ := Aside0.mk (Kd.C_drew HR628_0.out)
              have n4_ := Aside0.mk (below_drew1 HB.out)
              clear HO_8
              clear HO_10
              clear HR624_0
              clear HR628_0
              clear HB
              have HO_8 := n0_
              have HO_10 := n1_
              have HR624_0 := n2_
              have HR628_0 := n3_
              have HB := n4_
              clear n0_ n1_ n2_ n3_ n4_
              refine start_ (n := 16) (S := fun w' => True) (ds := []) #[ff, ff, ff, ff, ff, ff, ff, ff, ff, ff, ff, ff, ff, ff, ff, ff] (by kernel_rfl) rfl rfl trivial (fun hHeld => ?_); refine with_tabW moultlaw12_MergeNeeds.tab13 moultlaw12_MergeNeeds.bits13 (fun HT_ HW_ => ?_)
              generalize wr.drew = w28 at HO_8 HO_10 HR624_0 HR628_0 HB hHeld ⊢
              refine pq_ (i := 0) (N := some 60) HT_ #[tt, ff, ff, ff, ff, ff, ff, ff, ff, ff, ff, ff, ff, ff, ff, ff] ?_
              refine pq_ (i := 1) (N := some 61) HT_ #[tt, tt, ff, ff, ff, ff, ff, ff, ff, ff, ff, ff, ff, ff, ff, ff] ?_
              refine pu_ (i := 2) (N := some 62) HT_ #[tt, tt, tt, ff, ff, ff, ff, ff, ff, ff, ff, ff, ff, ff, ff, ff] ?_
              refine pu_ (i := 3) (N := some 63) HT_ #[tt, tt, tt, tt, ff, ff, ff, ff, ff, ff, ff, ff, ff, ff, ff, ff] ?_
              refine pu_ (i := 4) (N := some 64) HT_ #[tt, tt, tt, tt, tt, ff, ff, ff, ff, ff, ff, ff, ff, ff, ff, ff] ?_
              refine pu_ (i := 5) (N := some 65) HT_ #[tt, tt, tt, tt, tt, tt, ff, ff, ff, ff, ff, ff, ff, ff, ff, ff] ?_
              refine pu_ (i := 6) (N := some 66) HT_ #[tt, tt, tt, tt, tt, tt, tt, ff, ff, ff, ff, ff, ff, ff, ff, ff] ?_
              refine pu_ (i := 7) (N := some 67) HT_ #[tt, tt, tt, tt, tt, tt, tt, tt, ff, ff, ff, ff, ff, ff, ff, ff] ?_
              refine pu_ (i := 8) (N := some 68) HT_ #[tt, tt, tt, tt, tt, tt, tt, tt, tt, ff, ff, ff, ff, ff, ff, ff] ?_
              refine pu_ (i := 9) (N := some 69) HT_ #[tt, tt, tt, tt, tt, tt, tt, tt, tt, tt, ff, ff, ff, ff, ff, ff] ?_
              refine pu_ (i := 10) (N := some 70) HT_ #[tt, tt, tt, tt, tt, tt, tt, tt, tt, tt, tt, ff, ff, ff, ff, ff] ?_
              refine pu_ (i := 11) (N := some 71) HT_ #[tt, tt, tt, tt, tt, tt, tt, tt, tt, tt, tt, tt, ff, ff, ff, ff] ?_
              refine pu_ (i := 12) (N := some 72) HT_ #[tt, tt, tt, tt, tt, tt, tt, tt, tt, tt, tt, tt, tt, ff, ff, ff] ?_
              refine pu_ (i := 13) (N := some 73) HT_ #[tt, tt, tt, tt, tt, tt, tt, tt, tt, tt, tt, tt, tt, tt, ff, ff] ?_
              refine pq_ (i := 14) (N := some 74) HT_ #[tt, tt, tt, tt, tt, tt, tt, tt, tt, tt, tt, tt, tt, tt, tt, ff] ?_
              refine pq_ (i := 15) (N := some 12) HT_ #[tt, tt, tt, tt, tt, tt, tt, tt, tt, tt, tt, tt, tt, tt, tt, tt] ?_
              refine done_ (done_of HT_.out (by kernel_rfl)) ?_
              try go_wp2
              go_roundg k3
              case measure => have := HJ5.out; have := HK2.out; have := HK3.out; omega
              case rel => exact ⟨(true), (wrap64 (x13_3 + 1)), (by first | rfl | (simp; done) | (simp [*]; done)), (by first | rfl | (simp; done) | (simp [*]; done)), H', ⟨by have := HJ5.out; have := HK2.out; have := HK3.out; omega⟩, ⟨by (with_reducible repeat (first | apply Kd.N_alloc | apply Kd.N_drewN | apply Kd.N_drew)); exact HO_8.out⟩, ⟨by (with_reducible repeat (first | apply Kd.R_alloc | apply Kd.R_drewN | apply Kd.R_drew)); exact HO_10.out⟩, ⟨by repeat (first | (with_reducible exact HR624_0.out) | (with_reducible refine Kd.C_alloc ?_ _) | (with_reducible refine Kd.C_drewN ?_ _) | (with_reducible refine Kd.C_drew ?_) | exact HR624_0.out)⟩, ⟨by repeat (first | (with_reducible exact HR628_0.out) | (with_reducible refine Kd.C_alloc ?_ _) | (with_reducible refine Kd.C_drewN ?_ _) | (with_reducible refine Kd.C_drew ?_) | exact HR628_0.out)⟩, ⟨by repeat (first | (with_reducible first | exact HB.out | apply below_alloc | apply pw_below_drewN | apply below_drew1) | exact HB.out)⟩⟩
             ·replace c27 := Bool.eq_false_iff.mpr c27
              subst c27
              have H1 : (if 0 < (t620.length : Int) then (if 0 ≤ x11_2 then (if x11_2 < (t625.length : Int) then (if 0 ≤ x13_3 then ((moultlaw12_newest.f k3 (rd_L4 t620 0) ((rd_T36 t625 x11_2).f0) ((rd_T36 t625 x11_2).f1) ((rd_T36 t625 x11_2).f2) ((rd_T36 t625 x11_2).f3) (rd l1 x13_3)).bind fun t634 => (moultlaw12_MergeNeeds.l1 k3 l1 a2 t620 t625 x11_2 t634 (wrap64 (x13_3 + 1)))) else (none)) else (none)) else (none)) else (none)) = some r := by rw [if_neg (show ¬ (false = true) by decide)] at H; exact H
              clear H
              have H := H1
              clear H1
              by_cases c29 : 0 < (t620.length : Int)
              ·rw [if_pos c29] at H
               have c29b0 : decide (0 < (t620.length : Int)) = true := decide_eq_true c29
               have c29b1 : decide (0 < t620.length) = true := decide_eq_true (by omega)
               clear c29
               by_cases c30 : 0 ≤ x11_2
               ·rw [if_pos c30] at H
                have c30b0 : decide (0 ≤ x11_2) = true := decide_eq_true c30
                clear c30
                by_cases c31 : x11_2 < (t625.length : Int)
                ·rw [if_pos c31] at H
                 have c31b0 : decide (x11_2 < (t625.length : Int)) = true := decide_eq_true c31
                 clear c31
                 by_cases c32 : 0 ≤ x13_3
                 ·rw [if_pos c32] at H
                  have c32b0 : decide (0 ≤ x13_3) = true := decide_eq_true c32
                  clear c32
                  replace H := Option.bind_eq_some_iff.mp H
                  obtain ⟨t634, A330, H⟩ := H
                  replace H : (moultlaw12_MergeNeeds.l1 k3 l1 a2 t620 t625 x11_2 t634 (wrap64 (x13_3 + 1))) = some r := H
                  have A33 := Aside0.mk A330
                  clear A330
                  have H' := Aside0.mk H
                  clear H
                  try go_wp2
                  have n0_ := Aside0.mk (Kd.N_drew HO_8.out)
                  have n1_ := Aside0.mk (Kd.R_drew HO_10.out)
                  have n2_ := Aside0.mk (Kd.C_drew HR624_0.out)
                  have n3_ := Aside0.mk (Kd.C_drew HR628_0.out)
                  have n4_ := Aside0.mk (below_drew1 HB.out)
                  clear HO_8
                  clear HO_10
                  clear HR624_0
                  clear HR628_0
                  clear HB
                  have HO_8 := n0_
                  have HO_10 := n1_
                  have HR624_0 := n2_
                  have HR628_0 := n3_
                  have HB := n4_
                  clear n0_ n1_ n2_ n3_ n4_
                  have p631 : 0 ≤ (0 : Int) := (by omega)
                  have q631 : 0 < (t620.length : Int) := of_decide_eq_true (by first | (with_reducible assumption) | assumption)
                  obtain ⟨ad631, A631_0, c631_0, e631, hx631_0, hl631_0, hi631_0⟩ := at_L4 (Kd.N_reads' HO_8.out).2.2 0 p631 q631
                  obtain rfl : ad624 = ad631 := (by injection e631)
                  obtain ⟨ce631, hce631, hMe631, hcc631⟩ := Kd.N_get HO_8.out [] 0 p631 (by first | exact q631 | exact of_decide_eq_true (by first | (with_reducible assumption) | assumption) | (have e_ := (Kd.N_reads' HO_8.out).1; omega))
                  obtain ⟨ua631_0, uc631_0, rfl, ul631_0, ge631_0⟩ := Kd.FK_slice_open hMe631
                  have hv631_0 := hcc631 0 _ rfl
                  rw [Nat.add_zero, show ((Kd.slice 36 k36)).sz = 1 from rfl, Nat.mul_one] at hv631_0
                  replace hv631_0 := Option.some.inj (hv631_0.symm.trans hx631_0)
                  injection hv631_0 with hva_ hvn_ hvc_
                  rw [hva_] at ge631_0
                  rw [hvc_] at ul631_0
                  have HL631_0 := Aside0.mk (show Kd.V k36 36 _ w.heap.size _ _ (rd_L4 t620 0) from Kd.V_mk ul631_0 ge631_0)
                  clear hva_ hvn_ hvc_ ge631_0 ul631_0
                  clear hcc631 hce631
                  have qi631 : (0 < t620.length) = True := eq_true (by omega)
                  (try rw [show ((0 : Int)).toNat = 0 from rfl] at hx631_0)
                  (try rw [Addr.add_zero'] at hx631_0)
                  have HR631_0 := Aside0.mk hi631_0
                  have HC631_0 := Aside0.mk hl631_0
                  clear hi631_0 hl631_0
                  replace p631 := eq_true p631
                  replace q631 := eq_true q631
                  have p632 : 0 ≤ (x11_2 : Int) := of_decide_eq_true (by first | (with_reducible assumption) | assumption)
                  have q632 : x11_2 < (t625.length : Int) := of_decide_eq_true (by first | (with_reducible assumption) | assumption)
                  obtain ⟨ad632, e632, hx632_0, hx632_1, hx632_2, hx632_3⟩ := at_T36 (Kd.R_reads' HO_10.out).2.2 x11_2 p632 q632
                  obtain rfl : ad629 = ad632 := (by injection e632)
                  replace p632 := eq_true p632
                  replace q632 := eq_true q632
                  have p633 : 0 ≤ (x13_3 : Int) := of_decide_eq_true (by first | (with_reducible assumption) | assumption)
                  have q633 : x13_3 < (l1.length : Int) := of_decide_eq_true (by first | (with_reducible assumption) | assumption)
                  obtain ⟨ad633, e633, hx633_0⟩ := Kd.at_int HR1.out x13_3 p633 q633
                  have hw633_0 := hx633_0
                  cases e633
                  replace hx633_0 := (HB.out.cell (World.block_lt_of_cell? w _ hx633_0)).trans hx633_0
                  replace p633 := eq_true p633
                  replace q633 := eq_true q633
                  refine start_ (n := 16) (S := fun w' => w'.cell? ad624 = some (.slice A631_0 (rd_L4 t620 0).length c631_0) ∧ w'.cell? (ad629.add ((x11_2).toNat * 4)) = some (.string ((rd_T36 t625 x11_2).f0)) ∧ w'.cell? ⟨(ad629.add ((x11_2).toNat * 4)).block, (ad629.add ((x11_2).toNat * 4)).off + 1, none⟩ = some (.int .i64 ((rd_T36 t625 x11_2).f1)) ∧ w'.cell? ⟨(ad629.add ((x11_2).toNat * 4)).block, (ad629.add ((x11_2).toNat * 4)).off + 2, none⟩ = some (.bool ((rd_T36 t625 x11_2).f2)) ∧ w'.cell? ⟨(ad629.add ((x11_2).toNat * 4)).block, (ad629.add ((x11_2).toNat * 4)).off + 3, none⟩ = some (.string ((rd_T36 t625 x11_2).f3)) ∧ w'.cell? (ad633.add (x13_3).toNat) = some (.int .i64 (rd l1 x13_3))) (ds := []) #[ff, ff, ff, ff, ff, ff, ff, ff, ff, ff, ff, ff, ff, ff, ff, ff] (by kernel_rfl) rfl rfl ⟨hx631_0, hx632_0, hx632_1, hx632_2, hx632_3, ((HB.out.cell (World.block_lt_of_cell? w _ hw633_0)).trans hw633_0)⟩ (fun hHeld => ?_); refine with_tabW moultlaw12_MergeNeeds.tab13 moultlaw12_MergeNeeds.bits13 (fun HT_ HW_ => ?_)
                  generalize wr.drew = w34 at HO_8 HO_10 HR624_0 HR628_0 HB HL631_0 HR631_0 hx631_0 hx632_0 hx632_1 hx632_2 hx632_3 hx633_0 hHeld ⊢
                  refine pq_ (i := 0) (N := some 60) HT_ #[tt, ff, ff, ff, ff, ff, ff, ff, ff, ff, ff, ff, ff, ff, ff, ff] ?_
                  refine pq_ (i := 1) (N := some 61) HT_ #[tt, tt, ff, ff, ff, ff, ff, ff, ff, ff, ff, ff, ff, ff, ff, ff] ?_
                  refine pq_ (i := 2) (N := some 62) HT_ #[tt, tt, tt, ff, ff, ff, ff, ff, ff, ff, ff, ff, ff, ff, ff, ff] ?_
                  refine pq_ (i := 3) (N := some 63) HT_ #[tt, tt, tt, tt, ff, ff, ff, ff, ff, ff, ff, ff, ff, ff, ff, ff] ?_
                  refine pq_ (i := 5) (N := some 65) HT_ #[tt, tt, tt, tt, ff, tt, ff, ff, ff, ff, ff, ff, ff, ff, ff, ff] ?_
                  refine pq_ (i := 6) (N := some 66) HT_ #[tt, tt, tt, tt, ff, tt, tt, ff, ff, ff, ff, ff, ff, ff, ff, ff] ?_
                  refine pq_ (i := 7) (N := some 67) HT_ #[tt, tt, tt, tt, ff, tt, tt, tt, ff, ff, ff, ff, ff, ff, ff, ff] ?_
                  refine pq_ (i := 9) (N := some 69) HT_ #[tt, tt, tt, tt, ff, tt, tt, tt, ff, tt, ff, ff, ff, ff, ff, ff] ?_
                  refine pq_ (i := 10) (N := some 70) HT_ #[tt, tt, tt, tt, ff, tt, tt, tt, ff, tt, tt, ff, ff, ff, ff, ff] ?_
                  refine pq_ (i := 11) (N := some 71) HT_ #[tt, tt, tt, tt, ff, tt, tt, tt, ff, tt, tt, tt, ff, ff, ff, ff] ?_
                  refine take_ (i := 4) (N := some 64) (v := ?_) (a' := ?_) #[tt, tt, tt, tt, tt, tt, tt, tt, ff, tt, tt, tt, ff, ff, ff, ff] rfl rfl (take_ofW HT_.out HW_.out (by kernel_rfl)) (fun _ _ _ h => h) (Or.inl ⟨by rfl, ?_⟩) hHeld ?_ ?_
                  rotate_left
                  ·rintro w' ⟨s0, s1, s2, s3, s4, s5⟩
                   go_simp
                   with_reducible rfl
                  rotate_left
                  ·simp only [Act.put, List.setIfInBounds_toArray, List.set_cons_zero, List.set_cons_succ, i64_w, i32_w]
                   rfl
                  refine take_ (i := 8) (N := some 68) (v := ?_) (a' := ?_) #[tt, tt, tt, tt, tt, tt, tt, tt, tt, tt, tt, tt, ff, ff, ff, ff] rfl rfl (take_ofW HT_.out HW_.out (by kernel_rfl)) (fun _ _ _ h => h) (Or.inl ⟨by rfl, ?_⟩) hHeld ?_ ?_
                  rotate_left
                  ·rintro w' ⟨s0, s1, s2, s3, s4, s5⟩
                   go_simp
                   with_reducible rfl
                  rotate_left
                  ·simp only [Act.put, List.setIfInBounds_toArray, List.set_cons_zero, List.set_cons_succ, i64_w, i32_w]
                   rfl
                  refine take_ (i := 12) (N := some 72) (v := ?_) (a' := ?_) #[tt, tt, tt, tt, tt, tt, tt, tt, tt, tt, tt, tt, tt, ff, ff, ff] rfl rfl (take_ofW HT_.out HW_.out (by kernel_rfl)) (fun _ _ _ h => h) (Or.inl ⟨by rfl, ?_⟩) hHeld ?_ ?_
                  rotate_left
                  ·rintro w' ⟨s0, s1, s2, s3, s4, s5⟩
                   go_simp
                   with_reducible rfl
                  rotate_left
                  ·simp only [Act.put, List.setIfInBounds_toArray, List.set_cons_zero, List.set_cons_succ, i64_w, i32_w]
                   rfl
                  refine one_ (i := 13) (N := some 73) #[tt, tt, tt, tt, tt, tt, tt, tt, tt, tt, tt, tt, tt, tt, ff, ff] rfl rfl (one_of HT_.out (by kernel_rfl)) (by decide) (fun K hK => ?_)
                  refine goes_ Try.func23 (by kernel_rfl) rfl #[.slice A631_0 (rd_L4 t620 0).length c631_0, .agg #[.string ((rd_T36 t625 x11_2).f0), .int .i64 ((rd_T36 t625 x11_2).f1), .bool ((rd_T36 t625 x11_2).f2), .string ((rd_T36 t625 x11_2).f3)], .int .i64 (rd l1 x13_3)] (by rfl) rfl rfl (by (try simp only [List.map_toArray, List.map_cons, List.map_nil]); first | done | rfl | (simp only [List.length_drop, List.length_take]; rfl)) ?_
                  with_reducible refine (moultlaw12_newest.calls k3 _ _ (rd_L4 t620 0) ((rd_T36 t625 x11_2).f0) ((rd_T36 t625 x11_2).f1) ((rd_T36 t625 x11_2).f2) ((rd_T36 t625 x11_2).f3) (rd l1 x13_3) t634 _ ?side1 ?side2 A33.out).mono ?_
                  (case side1 => repeat (first | exact (by repeat (first | (with_reducible exact HR631_0.out) | (with_reducible refine Kd.C_alloc ?_ _) | (with_reducible refine Kd.C_drewN ?_ _) | (with_reducible refine Kd.C_drew ?_) | exact HR631_0.out)) | (with_reducible refine Kd.C_alloc ?_ _) | (with_reducible refine Kd.C_drewN ?_ _) | (with_reducible refine Kd.C_drew ?_)))
                  (case side2 => exact HC631_0.out)
                  rintro e w35 ⟨rfl, hb⟩
                  have HS0_ := (hb.cell (World.block_lt_of_cell? _ _ (hHeld.1))).trans (hHeld.1)
                  have HS1_ := (hb.cell (World.block_lt_of_cell? _ _ (hHeld.2.1))).trans (hHeld.2.1)
                  have HS2_ := (hb.cell (World.block_lt_of_cell? _ _ (hHeld.2.2.1))).trans (hHeld.2.2.1)
                  have HS3_ := (hb.cell (World.block_lt_of_cell? _ _ (hHeld.2.2.2.1))).trans (hHeld.2.2.2.1)
                  have HS4_ := (hb.cell (World.block_lt_of_cell? _ _ (hHeld.2.2.2.2.1))).trans (hHeld.2.2.2.2.1)
                  refine ⟨_, rfl, ?_⟩
                  have n0_ := Aside0.mk (Kd.N_below (by (with_reducible repeat (first | apply Kd.N_alloc | apply Kd.N_drewN | apply Kd.N_drew)); exact HO_8.out) hb)
                  have n1_ := Aside0.mk (Kd.R_below (by (with_reducible repeat (first | apply Kd.R_alloc | apply Kd.R_drewN | apply Kd.R_drew)); exact HO_10.out) hb)
                  have n2_ := Aside0.mk (Kd.V_below (by (with_reducible repeat (first | apply Kd.V_alloc | apply Kd.V_drewN | apply Kd.V_drew)); exact HL631_0.out) hb)
                  have n3_ := Aside0.mk (Kd.C_below (by repeat (first | (with_reducible exact HR624_0.out) | (with_reducible refine Kd.C_alloc ?_ _) | (with_reducible refine Kd.C_drewN ?_ _) | (with_reducible refine Kd.C_drew ?_) | exact HR624_0.out)) hb)
                  have n4_ := Aside0.mk (Kd.C_below (by repeat (first | (with_reducible exact HR628_0.out) | (with_reducible refine Kd.C_alloc ?_ _) | (with_reducible refine Kd.C_drewN ?_ _) | (with_reducible refine Kd.C_drew ?_) | exact HR628_0.out)) hb)
                  have n5_ := Aside0.mk (Kd.C_below (by repeat (first | (with_reducible exact HR631_0.out) | (with_reducible refine Kd.C_alloc ?_ _) | (with_reducible refine Kd.C_drewN ?_ _) | (with_reducible refine Kd.C_drew ?_) | exact HR631_0.out)) hb)
                  have n6_ := Aside0.mk (below_step (by repeat (first | (with_reducible first | exact HB.out | apply below_alloc | apply pw_below_drewN | apply below_drew1) | exact HB.out)) hb)
                  clear HO_8
                  clear HO_10
                  clear HL631_0
                  clear HR624_0
                  clear HR628_0
                  clear HR631_0
                  clear HB
                  have HO_8 := n0_
                  have HO_10 := n1_
                  have HL631_0 := n2_
                  have HR624_0 := n3_
                  have HR628_0 := n4_
                  have HR631_0 := n5_
                  have HB := n6_
                  clear n0_ n1_ n2_ n3_ n4_ n5_ n6_
                  (try clear hb)
                  (try clear hb2)
                  (try clear hk)
                  (try clear hi)
                  refine hK.out _ _ ⟨HS0_, HS1_, HS2_, HS3_, HS4_, ((HB.out.cell (World.block_lt_of_cell? w _ hw633_0)).trans hw633_0)⟩ (fun hHeld => ?_)
                  clear hK K
                  refine norm_ (a' := ?_) ?_ ?_
                  rotate_left
                  ·show Act.put _ (some 73) _ = _
                   simp only [Act.put, List.setIfInBounds_toArray, List.set_cons_zero, List.set_cons_succ, i64_w, i32_w]
                   rfl
                  refine pq_ (i := 14) (N := some 74) HT_ #[tt, tt, tt, tt, tt, tt, tt, tt, tt, tt, tt, tt, tt, tt, tt, ff] ?_
                  refine pq_ (i := 15) (N := some 12) HT_ #[tt, tt, tt, tt, tt, tt, tt, tt, tt, tt, tt, tt, tt, tt, tt, tt] ?_
                  refine done_ (done_of HT_.out (by kernel_rfl)) ?_
                  try go_wp2
                  go_roundg k3
                  case measure => have := HJ5.out; have := HK2.out; have := HK3.out; omega
                  case rel => exact ⟨(t634), (wrap64 (x13_3 + 1)), (by first | rfl | (simp; done) | (simp [*]; done)), (by first | rfl | (simp; done) | (simp [*]; done)), H', ⟨by have := HJ5.out; have := HK2.out; have := HK3.out; omega⟩, ⟨by (with_reducible repeat (first | apply Kd.N_alloc | apply Kd.N_drewN | apply Kd.N_drew)); exact HO_8.out⟩, ⟨by (with_reducible repeat (first | apply Kd.R_alloc | apply Kd.R_drewN | apply Kd.R_drew)); exact HO_10.out⟩, ⟨by repeat (first | (with_reducible exact HR624_0.out) | (with_reducible refine Kd.C_alloc ?_ _) | (with_reducible refine Kd.C_drewN ?_ _) | (with_reducible refine Kd.C_drew ?_) | exact HR624_0.out)⟩, ⟨by repeat (first | (with_reducible exact HR628_0.out) | (with_reducible refine Kd.C_alloc ?_ _) | (with_reducible refine Kd.C_drewN ?_ _) | (with_reducible refine Kd.C_drew ?_) | exact HR628_0.out)⟩, ⟨by repeat (first | (with_reducible first | exact HB.out | apply below_alloc | apply pw_below_drewN | apply below_drew1) | exact HB.out)⟩⟩
                 ·rw [if_neg c32] at H
                  exact absurd H (by simp)
                ·rw [if_neg c31] at H
                 exact absurd H (by simp)
               ·rw [if_neg c30] at H
                exact absurd H (by simp)
              ·rw [if_neg c29] at H
               exact absurd H (by simp)
            ·rw [if_neg c26] at H
             have c26b0 : decide (x13_3 < (l1.length : Int)) = false := decide_eq_false c26
             clear c26
             by_cases c36 : (wrap64 (x11_2 + 1)) = (t625.length : Int)
             ·rw [if_pos c36] at H
              have c36b0 : ((wrap64 (x11_2 + 1)) == (t625.length : Int)) = true := beq_iff_eq.mpr c36
              have c36b1 : ((wrap64 (x11_2 + 1)) != (t625.length : Int)) = false := bne_eq_false_iff_eq.mpr c36
              clear c36
              by_cases c37 : x12_3 = true
              ·subst c37
               have H1 : (if a2 = true then (if 0 ≤ x11_2 then (if x11_2 < (t625.length : Int) then (if (rd_T36 t625 x11_2).f2 = true then (some false) else (moultlaw12_MergeNeeds.l0 k3 l1 a2 t620 t625 (wrap64 (x11_2 + 1)))) else (none)) else (none)) else (moultlaw12_MergeNeeds.l0 k3 l1 a2 t620 t625 (wrap64 (x11_2 + 1)))) = some r := by rw [if_pos rfl] at H; exact H
               clear H
               have H := H1
               clear H1
               by_cases c38 : a2 = true
               ·subst c38
                have H1 : (if 0 ≤ x11_2 then (if x11_2 < (t625.length : Int) then (if (rd_T36 t625 x11_2).f2 = true then (some false) else (moultlaw12_MergeNeeds.l0 k3 l1 true t620 t625 (wrap64 (x11_2 + 1)))) else (none)) else (none)) = some r := by rw [if_pos rfl] at H; exact H
                clear H
                have H := H1
                clear H1
                by_cases c39 : 0 ≤ x11_2
                ·rw [if_pos c39] at H
                 have c39b0 : decide (0 ≤ x11_2) = true := decide_eq_true c39
                 clear c39
                 by_cases c40 : x11_2 < (t625.length : Int)
                 ·rw [if_pos c40] at H
                  have c40b0 : decide (x11_2 < (t625.length : Int)) = true := decide_eq_true c40
                  clear c40
                  obtain ⟨bq41, hbq41⟩ : ∃ b_ : Bool, b_ = ((rd_T36 t625 x11_2).f2) := ⟨_, rfl⟩
                  replace H : (if bq41 = true then (some false) else (moultlaw12_MergeNeeds.l0 k3 l1 true t620 t625 (wrap64 (x11_2 + 1)))) = some r := by rw [← hbq41] at H; exact H
                  have Nbq41 := Aside0.mk hbq41
                  clear hbq41
                  by_cases c42 : bq41 = true
                  ·subst c42
                   have H1 : (some false) = some r := by rw [if_pos rfl] at H; exact H
                   clear H
                   have H := H1
                   clear H1
                   obtain rfl := Option.some.inj H
                   try go_wp2
                   have n0_ := Aside0.mk (Kd.N_drew HO_8.out)
                   have n1_ := Aside0.mk (Kd.R_drew HO_10.out)
                   have n2_ := Aside0.mk (Kd.C_drew HR624_0.out)
                   have n3_ := Aside0.mk (Kd.C_drew HR628_0.out)
                   have n4_ := Aside0.mk (below_drew1 HB.out)
                   clear HO_8
                   clear HO_10
                   clear HR624_0
                   clear HR628_0
                   clear HB
                   have HO_8 := n0_
                   have HO_10 := n1_
                   have HR624_0 := n2_
                   have HR628_0 := n3_
                   have HB := n4_
                   clear n0_ n1_ n2_ n3_ n4_
                   refine start_ (n := 20) (S := fun w' => True) (ds := []) #[ff, ff, ff, ff, ff, ff, ff, ff, ff, ff, ff, ff, ff, ff, ff, ff, ff, ff, ff, ff] (by kernel_rfl) rfl rfl trivial (fun hHeld => ?_); refine with_tabW moultlaw12_MergeNeeds.tab14 moultlaw12_MergeNeeds.bits14 (fun HT_ HW_ => ?_)
                   generalize wr.drew = w43 at HO_8 HO_10 HR624_0 HR628_0 HB hHeld ⊢
                   refine pq_ (i := 0) (N := some 75) HT_ #[tt, ff, ff, ff, ff, ff, ff, ff, ff, ff, ff, ff, ff, ff, ff, ff, ff, ff, ff, ff] ?_
                   refine pq_ (i := 1) (N := some 76) HT_ #[tt, tt, ff, ff, ff, ff, ff, ff, ff, ff, ff, ff, ff, ff, ff, ff, ff, ff, ff, ff] ?_
                   refine pq_ (i := 2) (N := some 77) HT_ #[tt, tt, tt, ff, ff, ff, ff, ff, ff, ff, ff, ff, ff, ff, ff, ff, ff, ff, ff, ff] ?_
                   refine pq_ (i := 3) (N := some 78) HT_ #[tt, tt, tt, tt, ff, ff, ff, ff, ff, ff, ff, ff, ff, ff, ff, ff, ff, ff, ff, ff] ?_
                   refine pq_ (i := 4) (N := some 79) HT_ #[tt, tt, tt, tt, tt, ff, ff, ff, ff, ff, ff, ff, ff, ff, ff, ff, ff, ff, ff, ff] ?_
                   refine pq_ (i := 5) (N := some 80) HT_ #[tt, tt, tt, tt, tt, tt, ff, ff, ff, ff, ff, ff, ff, ff, ff, ff, ff, ff, ff, ff] ?_
                   refine pu_ (i := 6) (N := some 81) HT_ #[tt, tt, tt, tt, tt, tt, tt, ff, ff, ff, ff, ff, ff, ff, ff, ff, ff, ff, ff, ff] ?_
                   refine pu_ (i := 7) (N := some 82) HT_ #[tt, tt, tt, tt, tt, tt, tt, tt, ff, ff, ff, ff, ff, ff, ff, ff, ff, ff, ff, ff] ?_
                   refine pu_ (i := 8) (N := some 83) HT_ #[tt, tt, tt, tt, tt, tt, tt, tt, tt, ff, ff, ff, ff, ff, ff, ff, ff, ff, ff, ff] ?_
                   refine pu_ (i := 9) (N := some 84) HT_ #[tt, tt, tt, tt, tt, tt, tt, tt, tt, tt, ff, ff, ff, ff, ff, ff, ff, ff, ff, ff] ?_
                   refine pu_ (i := 10) (N := some 85) HT_ #[tt, tt, tt, tt, tt, tt, tt, tt, tt, tt, tt, ff, ff, ff, ff, ff, ff, ff, ff, ff] ?_
                   refine pu_ (i := 11) (N := some 86) HT_ #[tt, tt, tt, tt, tt, tt, tt, tt, tt, tt, tt, tt, ff, ff, ff, ff, ff, ff, ff, ff] ?_
                   refine pu_ (i := 12) (N := some 87) HT_ #[tt, tt, tt, tt, tt, tt, tt, tt, tt, tt, tt, tt, tt, ff, ff, ff, ff, ff, ff, ff] ?_
                   refine pu_ (i := 13) (N := some 88) HT_ #[tt, tt, tt, tt, tt, tt, tt, tt, tt, tt, tt, tt, tt, tt, ff, ff, ff, ff, ff, ff] ?_
                   refine pu_ (i := 14) (N := some 89) HT_ #[tt, tt, tt, tt, tt, tt, tt, tt, tt, tt, tt, tt, tt, tt, tt, ff, ff, ff, ff, ff] ?_
                   refine pu_ (i := 15) (N := some 90) HT_ #[tt, tt, tt, tt, tt, tt, tt, tt, tt, tt, tt, tt, tt, tt, tt, tt, ff, ff, ff, ff] ?_
                   refine pu_ (i := 16) (N := some 91) HT_ #[tt, tt, tt, tt, tt, tt, tt, tt, tt, tt, tt, tt, tt, tt, tt, tt, tt, ff, ff, ff] ?_
                   refine pu_ (i := 17) (N := some 92) HT_ #[tt, tt, tt, tt, tt, tt, tt, tt, tt, tt, tt, tt, tt, tt, tt, tt, tt, tt, ff, ff] ?_
                   refine pq_ (i := 18) (N := some 93) HT_ #[tt, tt, tt, tt, tt, tt, tt, tt, tt, tt, tt, tt, tt, tt, tt, tt, tt, tt, tt, ff] ?_
                   refine pq_ (i := 19) (N := some 14) HT_ #[tt, tt, tt, tt, tt, tt, tt, tt, tt, tt, tt, tt, tt, tt, tt, tt, tt, tt, tt, tt] ?_
                   refine done_ (done_of HT_.out (by kernel_rfl)) ?_
                   have p635 : 0 ≤ (x11_2 : Int) := of_decide_eq_true (by first | (with_reducible assumption) | assumption)
                   have q635 : x11_2 < (t625.length : Int) := of_decide_eq_true (by first | (with_reducible assumption) | assumption)
                   obtain ⟨ad635, e635, hx635_0, hx635_1, hx635_2, hx635_3⟩ := at_T36 (Kd.R_reads' HO_10.out).2.2 x11_2 p635 q635
                   (try rw [← Nbq41.out] at hx635_2)
                   obtain rfl : ad629 = ad635 := (by injection e635)
                   replace p635 := eq_true p635
                   replace q635 := eq_true q635
                   try go_wp2
                   go_ret
                   exact ⟨by first | rfl | (simp [errW_none, errW_some] <;> rfl) | (simp [*, errW_none, errW_some] <;> rfl), by repeat (first | (with_reducible first | exact HB.out | apply below_alloc | apply pw_below_drewN | apply below_drew1) | exact HB.out)⟩
                  ·replace c42 := Bool.eq_false_iff.mpr c42
                   subst c42
                   have H1 : (moultlaw12_MergeNeeds.l0 k3 l1 true t620 t625 (wrap64 (x11_2 + 1))) = some r := by rw [if_neg (show ¬ (false = true) by decide)] at H; exact H
                   clear H
                   have H := H1
                   clear H1
                   have H' := Aside0.mk H
                   clear H
                   try go_wp2
                   have n0_ := Aside0.mk (Kd.N_drew HO_8.out)
                   have n1_ := Aside0.mk (Kd.R_drew HO_10.out)
                   have n2_ := Aside0.mk (Kd.C_drew HR624_0.out)
                   have n3_ := Aside0.mk (Kd.C_drew HR628_0.out)
                   have n4_ := Aside0.mk (below_drew1 HB.out)
                   clear HO_8
                   clear HO_10
                   clear HR624_0
                   clear HR628_0
                   clear HB
                   have HO_8 := n0_
                   have HO_10 := n1_
                   have HR624_0 := n2_
                   have HR628_0 := n3_
                   have HB := n4_
                   clear n0_ n1_ n2_ n3_ n4_
                   refine start_ (n := 20) (S := fun w' => True) (ds := []) #[ff, ff, ff, ff, ff, ff, ff, ff, ff, ff, ff, ff, ff, ff, ff, ff, ff, ff, ff, ff] (by kernel_rfl) rfl rfl trivial (fun hHeld => ?_); refine with_tabW moultlaw12_MergeNeeds.tab14 moultlaw12_MergeNeeds.bits14 (fun HT_ HW_ => ?_)
                   generalize wr.drew = w44 at HO_8 HO_10 HR624_0 HR628_0 HB hHeld ⊢
                   refine pq_ (i := 0) (N := some 75) HT_ #[tt, ff, ff, ff, ff, ff, ff, ff, ff, ff, ff, ff, ff, ff, ff, ff, ff, ff, ff, ff] ?_
                   refine pq_ (i := 1) (N := some 76) HT_ #[tt, tt, ff, ff, ff, ff, ff, ff, ff, ff, ff, ff, ff, ff, ff, ff, ff, ff, ff, ff] ?_
                   refine pq_ (i := 2) (N := some 77) HT_ #[tt, tt, tt, ff, ff, ff, ff, ff, ff, ff, ff, ff, ff, ff, ff, ff, ff, ff, ff, ff] ?_
                   refine pq_ (i := 3) (N := some 78) HT_ #[tt, tt, tt, tt, ff, ff, ff, ff, ff, ff, ff, ff, ff, ff, ff, ff, ff, ff, ff, ff] ?_
                   refine pq_ (i := 4) (N := some 79) HT_ #[tt, tt, tt, tt, tt, ff, ff, ff, ff, ff, ff, ff, ff, ff, ff, ff, ff, ff, ff, ff] ?_
                   refine pq_ (i := 5) (N := some 80) HT_ #[tt, tt, tt, tt, tt, tt, ff, ff, ff, ff, ff, ff, ff, ff, ff, ff, ff, ff, ff, ff] ?_
                   refine pu_ (i := 6) (N := some 81) HT_ #[tt, tt, tt, tt, tt, tt, tt, ff, ff, ff, ff, ff, ff, ff, ff, ff, ff, ff, ff, ff] ?_
                   refine pu_ (i := 7) (N := some 82) HT_ #[tt, tt, tt, tt, tt, tt, tt, tt, ff, ff, ff, ff, ff, ff, ff, ff, ff, ff, ff, ff] ?_
                   refine pu_ (i := 8) (N := some 83) HT_ #[tt, tt, tt, tt, tt, tt, tt, tt, tt, ff, ff, ff, ff, ff, ff, ff, ff, ff, ff, ff] ?_
                   refine pu_ (i := 9) (N := some 84) HT_ #[tt, tt, tt, tt, tt, tt, tt, tt, tt, tt, ff, ff, ff, ff, ff, ff, ff, ff, ff, ff] ?_
                   refine pu_ (i := 10) (N := some 85) HT_ #[tt, tt, tt, tt, tt, tt, tt, tt, tt, tt, tt, ff, ff, ff, ff, ff, ff, ff, ff, ff] ?_
                   refine pu_ (i := 11) (N := some 86) HT_ #[tt, tt, tt, tt, tt, tt, tt, tt, tt, tt, tt, tt, ff, ff, ff, ff, ff, ff, ff, ff] ?_
                   refine pu_ (i := 12) (N := some 87) HT_ #[tt, tt, tt, tt, tt, tt, tt, tt, tt, tt, tt, tt, tt, ff, ff, ff, ff, ff, ff, ff] ?_
                   refine pu_ (i := 13) (N := some 88) HT_ #[tt, tt, tt, tt, tt, tt, tt, tt, tt, tt, tt, tt, tt, tt, ff, ff, ff, ff, ff, ff] ?_
                   refine pu_ (i := 14) (N := some 89) HT_ #[tt, tt, tt, tt, tt, tt, tt, tt, tt, tt, tt, tt, tt, tt, tt, ff, ff, ff, ff, ff] ?_
                   refine pu_ (i := 15) (N := some 90) HT_ #[tt, tt, tt, tt, tt, tt, tt, tt, tt, tt, tt, tt, tt, tt, tt, tt, ff, ff, ff, ff] ?_
                   refine pu_ (i := 16) (N := some 91) HT_ #[tt, tt, tt, tt, tt, tt, tt, tt, tt, tt, tt, tt, tt, tt, tt, tt, tt, ff, ff, ff] ?_
                   refine pu_ (i := 17) (N := some 92) HT_ #[tt, tt, tt, tt, tt, tt, tt, tt, tt, tt, tt, tt, tt, tt, tt, tt, tt, tt, ff, ff] ?_
                   refine pq_ (i := 18) (N := some 93) HT_ #[tt, tt, tt, tt, tt, tt, tt, tt, tt, tt, tt, tt, tt, tt, tt, tt, tt, tt, tt, ff] ?_
                   refine pq_ (i := 19) (N := some 14) HT_ #[tt, tt, tt, tt, tt, tt, tt, tt, tt, tt, tt, tt, tt, tt, tt, tt, tt, tt, tt, tt] ?_
                   refine done_ (done_of HT_.out (by kernel_rfl)) ?_
                   have p635 : 0 ≤ (x11_2 : Int) := of_decide_eq_true (by first | (with_reducible assumption) | assumption)
                   have q635 : x11_2 < (t625.length : Int) := of_decide_eq_true (by first | (with_reducible assumption) | assumption)
                   obtain ⟨ad635, e635, hx635_0, hx635_1, hx635_2, hx635_3⟩ := at_T36 (Kd.R_reads' HO_10.out).2.2 x11_2 p635 q635
                   (try rw [← Nbq41.out] at hx635_2)
                   obtain rfl : ad629 = ad635 := (by injection e635)
                   replace p635 := eq_true p635
                   replace q635 := eq_true q635
                   try go_wp2
                   go_roundg k3
                   case measure => have := HJ5.out; have := HK2.out; have := HK3.out; omega
                   case rel => exact ⟨(wrap64 (x11_2 + 1)), (by first | rfl | (simp; done) | (simp [*]; done)), H', ⟨by have := HJ5.out; have := HK2.out; have := HK3.out; omega⟩, ⟨by (with_reducible repeat (first | apply Kd.N_alloc | apply Kd.N_drewN | apply Kd.N_drew)); exact HO_8.out⟩, ⟨by (with_reducible repeat (first | apply Kd.R_alloc | apply Kd.R_drewN | apply Kd.R_drew)); exact HO_10.out⟩, ⟨by repeat (first | (with_reducible exact HR624_0.out) | (with_reducible refine Kd.C_alloc ?_ _) | (with_reducible refine Kd.C_drewN ?_ _) | (with_reducible refine Kd.C_drew ?_) | exact HR624_0.out)⟩, ⟨by repeat (first | (with_reducible first | exact HB.out | apply below_alloc | apply pw_below_drewN | apply below_drew1) | exact HB.out)⟩⟩
                 ·rw [if_neg c40] at H
                  exact absurd H (by simp)
                ·rw [if_neg c39] at H
                 exact absurd H (by simp)
               ·replace c38 := Bool.eq_false_iff.mpr c38
                subst c38
                have H1 : (moultlaw12_MergeNeeds.l0 k3 l1 false t620 t625 (wrap64 (x11_2 + 1))) = some r := by rw [if_neg (show ¬ (false = true) by decide)] at H; exact H
                clear H
                have H := H1
                clear H1
                have H' := Aside0.mk H
                clear H
                try go_wp2
                have n0_ := Aside0.mk (Kd.N_drew HO_8.out)
                have n1_ := Aside0.mk (Kd.R_drew HO_10.out)
                have n2_ := Aside0.mk (Kd.C_drew HR624_0.out)
                have n3_ := Aside0.mk (Kd.C_drew HR628_0.out)
                have n4_ := Aside0.mk (below_drew1 HB.out)
                clear HO_8
                clear HO_10
                clear HR624_0
                clear HR628_0
                clear HB
                have HO_8 := n0_
                have HO_10 := n1_
                have HR624_0 := n2_
                have HR628_0 := n3_
                have HB := n4_
                clear n0_ n1_ n2_ n3_ n4_
                refine start_ (n := 20) (S := fun w' => True) (ds := []) #[ff, ff, ff, ff, ff, ff, ff, ff, ff, ff, ff, ff, ff, ff, ff, ff, ff, ff, ff, ff] (by kernel_rfl) rfl rfl trivial (fun hHeld => ?_); refine with_tabW moultlaw12_MergeNeeds.tab14 moultlaw12_MergeNeeds.bits14 (fun HT_ HW_ => ?_)
                generalize wr.drew = w45 at HO_8 HO_10 HR624_0 HR628_0 HB hHeld ⊢
                refine pq_ (i := 0) (N := some 75) HT_ #[tt, ff, ff, ff, ff, ff, ff, ff, ff, ff, ff, ff, ff, ff, ff, ff, ff, ff, ff, ff] ?_
                refine pq_ (i := 1) (N := some 76) HT_ #[tt, tt, ff, ff, ff, ff, ff, ff, ff, ff, ff, ff, ff, ff, ff, ff, ff, ff, ff, ff] ?_
                refine pq_ (i := 2) (N := some 77) HT_ #[tt, tt, tt, ff, ff, ff, ff, ff, ff, ff, ff, ff, ff, ff, ff, ff, ff, ff, ff, ff] ?_
                refine pq_ (i := 3) (N := some 78) HT_ #[tt, tt, tt, tt, ff, ff, ff, ff, ff, ff, ff, ff, ff, ff, ff, ff, ff, ff, ff, ff] ?_
                refine pq_ (i := 4) (N := some 79) HT_ #[tt, tt, tt, tt, tt, ff, ff, ff, ff, ff, ff, ff, ff, ff, ff, ff, ff, ff, ff, ff] ?_
                refine pq_ (i := 5) (N := some 80) HT_ #[tt, tt, tt, tt, tt, tt, ff, ff, ff, ff, ff, ff, ff, ff, ff, ff, ff, ff, ff, ff] ?_
                refine pu_ (i := 6) (N := some 81) HT_ #[tt, tt, tt, tt, tt, tt, tt, ff, ff, ff, ff, ff, ff, ff, ff, ff, ff, ff, ff, ff] ?_
                refine pu_ (i := 7) (N := some 82) HT_ #[tt, tt, tt, tt, tt, tt, tt, tt, ff, ff, ff, ff, ff, ff, ff, ff, ff, ff, ff, ff] ?_
                refine pu_ (i := 8) (N := some 83) HT_ #[tt, tt, tt, tt, tt, tt, tt, tt, tt, ff, ff, ff, ff, ff, ff, ff, ff, ff, ff, ff] ?_
                refine pu_ (i := 9) (N := some 84) HT_ #[tt, tt, tt, tt, tt, tt, tt, tt, tt, tt, ff, ff, ff, ff, ff, ff, ff, ff, ff, ff] ?_
                refine pu_ (i := 10) (N := some 85) HT_ #[tt, tt, tt, tt, tt, tt, tt, tt, tt, tt, tt, ff, ff, ff, ff, ff, ff, ff, ff, ff] ?_
                refine pu_ (i := 11) (N := some 86) HT_ #[tt, tt, tt, tt, tt, tt, tt, tt, tt, tt, tt, tt, ff, ff, ff, ff, ff, ff, ff, ff] ?_
                refine pu_ (i := 12) (N := some 87) HT_ #[tt, tt, tt, tt, tt, tt, tt, tt, tt, tt, tt, tt, tt, ff, ff, ff, ff, ff, ff, ff] ?_
                refine pu_ (i := 13) (N := some 88) HT_ #[tt, tt, tt, tt, tt, tt, tt, tt, tt, tt, tt, tt, tt, tt, ff, ff, ff, ff, ff, ff] ?_
                refine pu_ (i := 14) (N := some 89) HT_ #[tt, tt, tt, tt, tt, tt, tt, tt, tt, tt, tt, tt, tt, tt, tt, ff, ff, ff, ff, ff] ?_
                refine pu_ (i := 15) (N := some 90) HT_ #[tt, tt, tt, tt, tt, tt, tt, tt, tt, tt, tt, tt, tt, tt, tt, tt, ff, ff, ff, ff] ?_
                refine pu_ (i := 16) (N := some 91) HT_ #[tt, tt, tt, tt, tt, tt, tt, tt, tt, tt, tt, tt, tt, tt, tt, tt, tt, ff, ff, ff] ?_
                refine pu_ (i := 17) (N := some 92) HT_ #[tt, tt, tt, tt, tt, tt, tt, tt, tt, tt, tt, tt, tt, tt, tt, tt, tt, tt, ff, ff] ?_
                refine pq_ (i := 18) (N := some 93) HT_ #[tt, tt, tt, tt, tt, tt, tt, tt, tt, tt, tt, tt, tt, tt, tt, tt, tt, tt, tt, ff] ?_
                refine pq_ (i := 19) (N := some 14) HT_ #[tt, tt, tt, tt, tt, tt, tt, tt, tt, tt, tt, tt, tt, tt, tt, tt, tt, tt, tt, tt] ?_
                refine done_ (done_of HT_.out (by kernel_rfl)) ?_
                try go_wp2
                go_roundg k3
                case measure => have := HJ5.out; have := HK2.out; have := HK3.out; omega
                case rel => exact ⟨(wrap64 (x11_2 + 1)), (by first | rfl | (simp; done) | (simp [*]; done)), H', ⟨by have := HJ5.out; have := HK2.out; have := HK3.out; omega⟩, ⟨by (with_reducible repeat (first | apply Kd.N_alloc | apply Kd.N_drewN | apply Kd.N_drew)); exact HO_8.out⟩, ⟨by (with_reducible repeat (first | apply Kd.R_alloc | apply Kd.R_drewN | apply Kd.R_drew)); exact HO_10.out⟩, ⟨by repeat (first | (with_reducible exact HR624_0.out) | (with_reducible refine Kd.C_alloc ?_ _) | (with_reducible refine Kd.C_drewN ?_ _) | (with_reducible refine Kd.C_drew ?_) | exact HR624_0.out)⟩, ⟨by repeat (first | (with_reducible first | exact HB.out | apply below_alloc | apply pw_below_drewN | apply below_drew1) | exact HB.out)⟩⟩
              ·replace c37 := Bool.eq_false_iff.mpr c37
               subst c37
               have H1 : (some false) = some r := by rw [if_neg (show ¬ (false = true) by decide)] at H; exact H
               clear H
               have H := H1
               clear H1
               obtain rfl := Option.some.inj H
               try go_wp2
               have n0_ := Aside0.mk (Kd.N_drew HO_8.out)
               have n1_ := Aside0.mk (Kd.R_drew HO_10.out)
               have n2_ := Aside0.mk (Kd.C_drew HR624_0.out)
               have n3_ := Aside0.mk (Kd.C_drew HR628_0.out)
               have n4_ := Aside0.mk (below_drew1 HB.out)
               clear HO_8
               clear HO_10
               clear HR624_0
               clear HR628_0
               clear HB
               have HO_8 := n0_
               have HO_10 := n1_
               have HR624_0 := n2_
               have HR628_0 := n3_
               have HB := n4_
               clear n0_ n1_ n2_ n3_ n4_
               refine start_ (n := 20) (S := fun w' => True) (ds := []) #[ff, ff, ff, ff, ff, ff, ff, ff, ff, ff, ff, ff, ff, ff, ff, ff, ff, ff, ff, ff] (by kernel_rfl) rfl rfl trivial (fun hHeld => ?_); refine with_tabW moultlaw12_MergeNeeds.tab14 moultlaw12_MergeNeeds.bits14 (fun HT_ HW_ => ?_)
               generalize wr.drew = w46 at HO_8 HO_10 HR624_0 HR628_0 HB hHeld ⊢
               refine pq_ (i := 0) (N := some 75) HT_ #[tt, ff, ff, ff, ff, ff, ff, ff, ff, ff, ff, ff, ff, ff, ff, ff, ff, ff, ff, ff] ?_
               refine pq_ (i := 1) (N := some 76) HT_ #[tt, tt, ff, ff, ff, ff, ff, ff, ff, ff, ff, ff, ff, ff, ff, ff, ff, ff, ff, ff] ?_
               refine pq_ (i := 2) (N := some 77) HT_ #[tt, tt, tt, ff, ff, ff, ff, ff, ff, ff, ff, ff, ff, ff, ff, ff, ff, ff, ff, ff] ?_
               refine pq_ (i := 3) (N := some 78) HT_ #[tt, tt, tt, tt, ff, ff, ff, ff, ff, ff, ff, ff, ff, ff, ff, ff, ff, ff, ff, ff] ?_
               refine pq_ (i := 4) (N := some 79) HT_ #[tt, tt, tt, tt, tt, ff, ff, ff, ff, ff, ff, ff, ff, ff, ff, ff, ff, ff, ff, ff] ?_
               refine pq_ (i := 5) (N := some 80) HT_ #[tt, tt, tt, tt, tt, tt, ff, ff, ff, ff, ff, ff, ff, ff, ff, ff, ff, ff, ff, ff] ?_
               refine pu_ (i := 6) (N := some 81) HT_ #[tt, tt, tt, tt, tt, tt, tt, ff, ff, ff, ff, ff, ff, ff, ff, ff, ff, ff, ff, ff] ?_
               refine pu_ (i := 7) (N := some 82) HT_ #[tt, tt, tt, tt, tt, tt, tt, tt, ff, ff, ff, ff, ff, ff, ff, ff, ff, ff, ff, ff] ?_
               refine pu_ (i := 8) (N := some 83) HT_ #[tt, tt, tt, tt, tt, tt, tt, tt, tt, ff, ff, ff, ff, ff, ff, ff, ff, ff, ff, ff] ?_
               refine pu_ (i := 9) (N := some 84) HT_ #[tt, tt, tt, tt, tt, tt, tt, tt, tt, tt, ff, ff, ff, ff, ff, ff, ff, ff, ff, ff] ?_
               refine pu_ (i := 10) (N := some 85) HT_ #[tt, tt, tt, tt, tt, tt, tt, tt, tt, tt, tt, ff, ff, ff, ff, ff, ff, ff, ff, ff] ?_
               refine pu_ (i := 11) (N := some 86) HT_ #[tt, tt, tt, tt, tt, tt, tt, tt, tt, tt, tt, tt, ff, ff, ff, ff, ff, ff, ff, ff] ?_
               refine pu_ (i := 12) (N := some 87) HT_ #[tt, tt, tt, tt, tt, tt, tt, tt, tt, tt, tt, tt, tt, ff, ff, ff, ff, ff, ff, ff] ?_
               refine pu_ (i := 13) (N := some 88) HT_ #[tt, tt, tt, tt, tt, tt, tt, tt, tt, tt, tt, tt, tt, tt, ff, ff, ff, ff, ff, ff] ?_
               refine pu_ (i := 14) (N := some 89) HT_ #[tt, tt, tt, tt, tt, tt, tt, tt, tt, tt, tt, tt, tt, tt, tt, ff, ff, ff, ff, ff] ?_
               refine pu_ (i := 15) (N := some 90) HT_ #[tt, tt, tt, tt, tt, tt, tt, tt, tt, tt, tt, tt, tt, tt, tt, tt, ff, ff, ff, ff] ?_
               refine pu_ (i := 16) (N := some 91) HT_ #[tt, tt, tt, tt, tt, tt, tt, tt, tt, tt, tt, tt, tt, tt, tt, tt, tt, ff, ff, ff] ?_
               refine pu_ (i := 17) (N := some 92) HT_ #[tt, tt, tt, tt, tt, tt, tt, tt, tt, tt, tt, tt, tt, tt, tt, tt, tt, tt, ff, ff] ?_
               refine pq_ (i := 18) (N := some 93) HT_ #[tt, tt, tt, tt, tt, tt, tt, tt, tt, tt, tt, tt, tt, tt, tt, tt, tt, tt, tt, ff] ?_
               refine pq_ (i := 19) (N := some 14) HT_ #[tt, tt, tt, tt, tt, tt, tt, tt, tt, tt, tt, tt, tt, tt, tt, tt, tt, tt, tt, tt] ?_
               refine done_ (done_of HT_.out (by kernel_rfl)) ?_
               try go_wp2
               go_ret
               exact ⟨by first | rfl | (simp [errW_none, errW_some] <;> rfl) | (simp [*, errW_none, errW_some] <;> rfl), by repeat (first | (with_reducible first | exact HB.out | apply below_alloc | apply pw_below_drewN | apply below_drew1) | exact HB.out)⟩
             ·rw [if_neg c36] at H
              have c36b0 : ((wrap64 (x11_2 + 1)) == (t625.length : Int)) = false := beq_eq_false_iff_ne.mpr c36
              have c36b1 : ((wrap64 (x11_2 + 1)) != (t625.length : Int)) = true := bne_iff_ne.mpr c36
              obtain ⟨ji47, hji47⟩ : ∃ j_ : Int, (wrap64 (x11_2 + 1)) = j_ := ⟨_, rfl⟩
              replace H : (if 0 ≤ (ji47) then (if (ji47) < (t625.length : Int) then (if 0 ≤ x11_2 then (if x11_2 < (t625.length : Int) then (if x12_3 = true then (if a2 = true then (if ((rd_T36 t625 (ji47)).f0).toList = ((rd_T36 t625 x11_2).f0).toList then (moultlaw12_MergeNeeds.l0 k3 l1 a2 t620 t625 ji47) else (if (rd_T36 t625 x11_2).f2 = true then (some false) else (moultlaw12_MergeNeeds.l0 k3 l1 a2 t620 t625 ji47))) else (moultlaw12_MergeNeeds.l0 k3 l1 a2 t620 t625 ji47)) else (some false)) else (none)) else (none)) else (none)) else (none)) = some r := by first | (rw [hji47] at H; exact H) | (simp only [hji47] at H ⊢; exact H)
              (try rw [hji47] at c36b0)
              (try rw [hji47] at c36b1)
              have hji47w : (IntKind.i64.wrap (x11_2 + 1)) = ji47 := (i64_w _).trans hji47
              by_cases c48 : 0 ≤ (ji47)
              ·rw [if_pos c48] at H
               have c48b0 : decide (0 ≤ (ji47)) = true := decide_eq_true c48
               clear c48
               by_cases c49 : (ji47) < (t625.length : Int)
               ·rw [if_pos c49] at H
                have c49b0 : decide ((ji47) < (t625.length : Int)) = true := decide_eq_true c49
                clear c49
                by_cases c50 : 0 ≤ x11_2
                ·rw [if_pos c50] at H
                 have c50b0 : decide (0 ≤ x11_2) = true := decide_eq_true c50
                 clear c50
                 by_cases c51 : x11_2 < (t625.length : Int)
                 ·rw [if_pos c51] at H
                  have c51b0 : decide (x11_2 < (t625.length : Int)) = true := decide_eq_true c51
                  clear c51
                  by_cases c52 : x12_3 = true
                  ·subst c52
                   have H1 : (if a2 = true then (if ((rd_T36 t625 (ji47)).f0).toList = ((rd_T36 t625 x11_2).f0).toList then (moultlaw12_MergeNeeds.l0 k3 l1 a2 t620 t625 ji47) else (if (rd_T36 t625 x11_2).f2 = true then (some false) else (moultlaw12_MergeNeeds.l0 k3 l1 a2 t620 t625 ji47))) else (moultlaw12_MergeNeeds.l0 k3 l1 a2 t620 t625 ji47)) = some r := by rw [if_pos rfl] at H; exact H
                   clear H
                   have H := H1
                   clear H1
                   by_cases c53 : a2 = true
                   ·subst c53
                    have H1 : (if ((rd_T36 t625 (ji47)).f0).toList = ((rd_T36 t625 x11_2).f0).toList then (moultlaw12_MergeNeeds.l0 k3 l1 true t620 t625 ji47) else (if (rd_T36 t625 x11_2).f2 = true then (some false) else (moultlaw12_MergeNeeds.l0 k3 l1 true t620 t625 ji47))) = some r := by rw [if_pos rfl] at H; exact H
                    clear H
                    have H := H1
                    clear H1
                    by_cases c54 : ((rd_T36 t625 (ji47)).f0).toList = ((rd_T36 t625 x11_2).f0).toList
                    ·rw [if_pos c54] at H
                     have c54b0 : (((rd_T36 t625 (ji47)).f0).toList == ((rd_T36 t625 x11_2).f0).toList) = true := beq_iff_eq.mpr c54
                     have c54b1 : (((rd_T36 t625 (ji47)).f0).toList != ((rd_T36 t625 x11_2).f0).toList) = false := bne_eq_false_iff_eq.mpr c54
                     clear c54
                     have H' := Aside0.mk H
                     clear H
                     try go_wp2
                     have n0_ := Aside0.mk (Kd.N_drew HO_8.out)
                     have n1_ := Aside0.mk (Kd.R_drew HO_10.out)
                     have n2_ := Aside0.mk (Kd.C_drew HR624_0.out)
                     have n3_ := Aside0.mk (Kd.C_drew HR628_0.out)
                     have n4_ := Aside0.mk (below_drew1 HB.out)
                     clear HO_8
                     clear HO_10
                     clear HR624_0
                     clear HR628_0
                     clear HB
                     have HO_8 := n0_
                     have HO_10 := n1_
                     have HR624_0 := n2_
                     have HR628_0 := n3_
                     have HB := n4_
                     clear n0_ n1_ n2_ n3_ n4_
                     have p636 : 0 ≤ ((ji47) : Int) := of_decide_eq_true (by first | (with_reducible assumption) | assumption)
                     have q636 : (ji47) < (t625.length : Int) := of_decide_eq_true (by first | (with_reducible assumption) | assumption)
                     obtain ⟨ad636, e636, hx636_0, hx636_1, hx636_2, hx636_3⟩ := at_T36 (Kd.R_reads' HO_10.out).2.2 (ji47) p636 q636
                     obtain rfl : ad629 = ad636 := (by injection e636)
                     replace p636 := eq_true p636
                     replace q636 := eq_true q636
                     have p637 : 0 ≤ (x11_2 : Int) := of_decide_eq_true (by first | (with_reducible assumption) | assumption)
                     have q637 : x11_2 < (t625.length : Int) := of_decide_eq_true (by first | (with_reducible assumption) | assumption)
                     obtain ⟨ad637, e637, hx637_0, hx637_1, hx637_2, hx637_3⟩ := at_T36 (Kd.R_reads' HO_10.out).2.2 x11_2 p637 q637
                     obtain rfl : ad629 = ad637 := (by injection e637)
                     replace p637 := eq_true p637
                     replace q637 := eq_true q637
                     refine start_ (n := 20) (S := fun w' => w'.cell? (ad629.add (((ji47)).toNat * 4)) = some (.string ((rd_T36 t625 (ji47)).f0)) ∧ w'.cell? ⟨(ad629.add (((ji47)).toNat * 4)).block, (ad629.add (((ji47)).toNat * 4)).off + 1, none⟩ = some (.int .i64 ((rd_T36 t625 (ji47)).f1)) ∧ w'.cell? ⟨(ad629.add (((ji47)).toNat * 4)).block, (ad629.add (((ji47)).toNat * 4)).off + 2, none⟩ = some (.bool ((rd_T36 t625 (ji47)).f2)) ∧ w'.cell? ⟨(ad629.add (((ji47)).toNat * 4)).block, (ad629.add (((ji47)).toNat * 4)).off + 3, none⟩ = some (.string ((rd_T36 t625 (ji47)).f3)) ∧ w'.cell? (ad629.add ((x11_2).toNat * 4)) = some (.string ((rd_T36 t625 x11_2).f0)) ∧ w'.cell? ⟨(ad629.add ((x11_2).toNat * 4)).block, (ad629.add ((x11_2).toNat * 4)).off + 1, none⟩ = some (.int .i64 ((rd_T36 t625 x11_2).f1)) ∧ w'.cell? ⟨(ad629.add ((x11_2).toNat * 4)).block, (ad629.add ((x11_2).toNat * 4)).off + 2, none⟩ = some (.bool ((rd_T36 t625 x11_2).f2)) ∧ w'.cell? ⟨(ad629.add ((x11_2).toNat * 4)).block, (ad629.add ((x11_2).toNat * 4)).off + 3, none⟩ = some (.string ((rd_T36 t625 x11_2).f3))) (ds := []) #[ff, ff, ff, ff, ff, ff, ff, ff, ff, ff, ff, ff, ff, ff, ff, ff, ff, ff, ff, ff] (by kernel_rfl) rfl rfl ⟨hx636_0, hx636_1, hx636_2, hx636_3, hx637_0, hx637_1, hx637_2, hx637_3⟩ (fun hHeld => ?_); refine with_tabW moultlaw12_MergeNeeds.tab14 moultlaw12_MergeNeeds.bits14 (fun HT_ HW_ => ?_)
                     generalize wr.drew = w55 at HO_8 HO_10 HR624_0 HR628_0 HB hx636_0 hx636_1 hx636_2 hx636_3 hx637_0 hx637_1 hx637_2 hx637_3 hHeld ⊢
                     refine pq_ (i := 0) (N := some 75) HT_ #[tt, ff, ff, ff, ff, ff, ff, ff, ff, ff, ff, ff, ff, ff, ff, ff, ff, ff, ff, ff] ?_
                     refine pq_ (i := 1) (N := some 76) HT_ #[tt, tt, ff, ff, ff, ff, ff, ff, ff, ff, ff, ff, ff, ff, ff, ff, ff, ff, ff, ff] ?_
                     refine pq_ (i := 2) (N := some 77) HT_ #[tt, tt, tt, ff, ff, ff, ff, ff, ff, ff, ff, ff, ff, ff, ff, ff, ff, ff, ff, ff] ?_
                     refine pq_ (i := 3) (N := some 78) HT_ #[tt, tt, tt, tt, ff, ff, ff, ff, ff, ff, ff, ff, ff, ff, ff, ff, ff, ff, ff, ff] ?_
                     refine pq_ (i := 4) (N := some 79) HT_ #[tt, tt, tt, tt, tt, ff, ff, ff, ff, ff, ff, ff, ff, ff, ff, ff, ff, ff, ff, ff] ?_
                     refine pq_ (i := 5) (N := some 80) HT_ #[tt, tt, tt, tt, tt, tt, ff, ff, ff, ff, ff, ff, ff, ff, ff, ff, ff, ff, ff, ff] ?_
                     refine pq_ (i := 6) (N := some 81) HT_ #[tt, tt, tt, tt, tt, tt, tt, ff, ff, ff, ff, ff, ff, ff, ff, ff, ff, ff, ff, ff] ?_
                     refine pq_ (i := 7) (N := some 82) HT_ #[tt, tt, tt, tt, tt, tt, tt, tt, ff, ff, ff, ff, ff, ff, ff, ff, ff, ff, ff, ff] ?_
                     refine pq_ (i := 8) (N := some 83) HT_ #[tt, tt, tt, tt, tt, tt, tt, tt, tt, ff, ff, ff, ff, ff, ff, ff, ff, ff, ff, ff] ?_
                     refine pq_ (i := 9) (N := some 84) HT_ #[tt, tt, tt, tt, tt, tt, tt, tt, tt, tt, ff, ff, ff, ff, ff, ff, ff, ff, ff, ff] ?_
                     refine pq_ (i := 10) (N := some 85) HT_ #[tt, tt, tt, tt, tt, tt, tt, tt, tt, tt, tt, ff, ff, ff, ff, ff, ff, ff, ff, ff] ?_
                     refine pq_ (i := 12) (N := some 87) HT_ #[tt, tt, tt, tt, tt, tt, tt, tt, tt, tt, tt, ff, tt, ff, ff, ff, ff, ff, ff, ff] ?_
                     refine pq_ (i := 13) (N := some 88) HT_ #[tt, tt, tt, tt, tt, tt, tt, tt, tt, tt, tt, ff, tt, tt, ff, ff, ff, ff, ff, ff] ?_
                     refine pq_ (i := 14) (N := some 89) HT_ #[tt, tt, tt, tt, tt, tt, tt, tt, tt, tt, tt, ff, tt, tt, tt, ff, ff, ff, ff, ff] ?_
                     refine pq_ (i := 15) (N := some 90) HT_ #[tt, tt, tt, tt, tt, tt, tt, tt, tt, tt, tt, ff, tt, tt, tt, tt, ff, ff, ff, ff] ?_
                     refine take_ (i := 11) (N := some 86) (v := ?_) (a' := ?_) #[tt, tt, tt, tt, tt, tt, tt, tt, tt, tt, tt, tt, tt, tt, tt, tt, ff, ff, ff, ff] rfl rfl (take_ofW HT_.out HW_.out (by kernel_rfl)) (fun _ _ _ h => h) (Or.inl ⟨by rfl, ?_⟩) hHeld ?_ ?_
                     rotate_left
                     ·rintro w' ⟨s0, s1, s2, s3, s4, s5, s6, s7⟩
                      go_simp
                      with_reducible rfl
                     rotate_left
                     ·simp only [Act.put, List.setIfInBounds_toArray, List.set_cons_zero, List.set_cons_succ, i64_w, i32_w]
                      rfl
                     refine take_ (i := 16) (N := some 91) (v := ?_) (a' := ?_) #[tt, tt, tt, tt, tt, tt, tt, tt, tt, tt, tt, tt, tt, tt, tt, tt, tt, ff, ff, ff] rfl rfl (take_ofW HT_.out HW_.out (by kernel_rfl)) (fun _ _ _ h => h) (Or.inl ⟨by rfl, ?_⟩) hHeld ?_ ?_
                     rotate_left
                     ·rintro w' ⟨s0, s1, s2, s3, s4, s5, s6, s7⟩
                      go_simp
                      with_reducible rfl
                     rotate_left
                     ·simp only [Act.put, List.setIfInBounds_toArray, List.set_cons_zero, List.set_cons_succ, i64_w, i32_w]
                      rfl
                     refine pq_ (i := 17) (N := some 92) HT_ #[tt, tt, tt, tt, tt, tt, tt, tt, tt, tt, tt, tt, tt, tt, tt, tt, tt, tt, ff, ff] ?_
                     refine pq_ (i := 18) (N := some 93) HT_ #[tt, tt, tt, tt, tt, tt, tt, tt, tt, tt, tt, tt, tt, tt, tt, tt, tt, tt, tt, ff] ?_
                     refine pq_ (i := 19) (N := some 14) HT_ #[tt, tt, tt, tt, tt, tt, tt, tt, tt, tt, tt, tt, tt, tt, tt, tt, tt, tt, tt, tt] ?_
                     refine done_ (done_of HT_.out (by kernel_rfl)) ?_
                     try go_wp2
                     go_roundg k3
                     case measure => have := HJ5.out; have := HK2.out; have := HK3.out; omega
                     case rel => exact ⟨(ji47), (by first | rfl | (simp; done) | (simp only [← hji47] <;> (first | rfl | simp)) | (simp [*]; done)), H', ⟨by have := HJ5.out; have := HK2.out; have := HK3.out; omega⟩, ⟨by (with_reducible repeat (first | apply Kd.N_alloc | apply Kd.N_drewN | apply Kd.N_drew)); exact HO_8.out⟩, ⟨by (with_reducible repeat (first | apply Kd.R_alloc | apply Kd.R_drewN | apply Kd.R_drew)); exact HO_10.out⟩, ⟨by repeat (first | (with_reducible exact HR624_0.out) | (with_reducible refine Kd.C_alloc ?_ _) | (with_reducible refine Kd.C_drewN ?_ _) | (with_reducible refine Kd.C_drew ?_) | exact HR624_0.out)⟩, ⟨by repeat (first | (with_reducible first | exact HB.out | apply below_alloc | apply pw_below_drewN | apply below_drew1) | exact HB.out)⟩⟩
                    ·rw [if_neg c54] at H
                     have c54b0 : (((rd_T36 t625 (ji47)).f0).toList == ((rd_T36 t625 x11_2).f0).toList) = false := beq_eq_false_iff_ne.mpr c54
                     have c54b1 : (((rd_T36 t625 (ji47)).f0).toList != ((rd_T36 t625 x11_2).f0).toList) = true := bne_iff_ne.mpr c54
                     obtain ⟨bq56, hbq56⟩ : ∃ b_ : Bool, b_ = ((rd_T36 t625 x11_2).f2) := ⟨_, rfl⟩
                     replace H : (if bq56 = true then (some false) else (moultlaw12_MergeNeeds.l0 k3 l1 true t620 t625 ji47)) = some r := by rw [← hbq56] at H; exact H
                     have Nbq56 := Aside0.mk hbq56
                     clear hbq56
                     by_cases c57 : bq56 = true
                     ·subst c57
                      have H1 : (some false) = some r := by rw [if_pos rfl] at H; exact H
                      clear H
                      have H := H1
                      clear H1
                      obtain rfl := Option.some.inj H
                      try go_wp2
                      have n0_ := Aside0.mk (Kd.N_drew HO_8.out)
                      have n1_ := Aside0.mk (Kd.R_drew HO_10.out)
                      have n2_ := Aside0.mk (Kd.C_drew HR624_0.out)
                      have n3_ := Aside0.mk (Kd.C_drew HR628_0.out)
                      have n4_ := Aside0.mk (below_drew1 HB.out)
                      clear HO_8
                      clear HO_10
                      clear HR624_0
                      clear HR628_0
                      clear HB
                      have HO_8 := n0_
                      have HO_10 := n1_
                      have HR624_0 := n2_
                      have HR628_0 := n3_
                      have HB := n4_
                      clear n0_ n1_ n2_ n3_ n4_
                      have p636 : 0 ≤ ((ji47) : Int) := of_decide_eq_true (by first | (with_reducible assumption) | assumption)
                      have q636 : (ji47) < (t625.length : Int) := of_decide_eq_true (by first | (with_reducible assumption) | assumption)
                      obtain ⟨ad636, e636, hx636_0, hx636_1, hx636_2, hx636_3⟩ := at_T36 (Kd.R_reads' HO_10.out).2.2 (ji47) p636 q636
                      (try rw [← Nbq56.out] at hx636_2)
                      obtain rfl : ad629 = ad636 := (by injection e636)
                      replace p636 := eq_true p636
                      replace q636 := eq_true q636
                      have p637 : 0 ≤ (x11_2 : Int) := of_decide_eq_true (by first | (with_reducible assumption) | assumption)
                      have q637 : x11_2 < (t625.length : Int) := of_decide_eq_true (by first | (with_reducible assumption) | assumption)
                      obtain ⟨ad637, e637, hx637_0, hx637_1, hx637_2, hx637_3⟩ := at_T36 (Kd.R_reads' HO_10.out).2.2 x11_2 p637 q637
                      (try rw [← Nbq56.out] at hx637_2)
                      obtain rfl : ad629 = ad637 := (by injection e637)
                      replace p637 := eq_true p637
                      replace q637 := eq_true q637
                      refine start_ (n := 20) (S := fun w' => w'.cell? (ad629.add (((ji47)).toNat * 4)) = some (.string ((rd_T36 t625 (ji47)).f0)) ∧ w'.cell? ⟨(ad629.add (((ji47)).toNat * 4)).block, (ad629.add (((ji47)).toNat * 4)).off + 1, none⟩ = some (.int .i64 ((rd_T36 t625 (ji47)).f1)) ∧ w'.cell? ⟨(ad629.add (((ji47)).toNat * 4)).block, (ad629.add (((ji47)).toNat * 4)).off + 2, none⟩ = some (.bool ((rd_T36 t625 (ji47)).f2)) ∧ w'.cell? ⟨(ad629.add (((ji47)).toNat * 4)).block, (ad629.add (((ji47)).toNat * 4)).off + 3, none⟩ = some (.string ((rd_T36 t625 (ji47)).f3)) ∧ w'.cell? (ad629.add ((x11_2).toNat * 4)) = some (.string ((rd_T36 t625 x11_2).f0)) ∧ w'.cell? ⟨(ad629.add ((x11_2).toNat * 4)).block, (ad629.add ((x11_2).toNat * 4)).off + 1, none⟩ = some (.int .i64 ((rd_T36 t625 x11_2).f1)) ∧ w'.cell? ⟨(ad629.add ((x11_2).toNat * 4)).block, (ad629.add ((x11_2).toNat * 4)).off + 2, none⟩ = some (.bool true) ∧ w'.cell? ⟨(ad629.add ((x11_2).toNat * 4)).block, (ad629.add ((x11_2).toNat * 4)).off + 3, none⟩ = some (.string ((rd_T36 t625 x11_2).f3))) (ds := []) #[ff, ff, ff, ff, ff, ff, ff, ff, ff, ff, ff, ff, ff, ff, ff, ff, ff, ff, ff, ff] (by kernel_rfl) rfl rfl ⟨hx636_0, hx636_1, hx636_2, hx636_3, hx637_0, hx637_1, hx637_2, hx637_3⟩ (fun hHeld => ?_); refine with_tabW moultlaw12_MergeNeeds.tab14 moultlaw12_MergeNeeds.bits14 (fun HT_ HW_ => ?_)
                      generalize wr.drew = w58 at HO_8 HO_10 HR624_0 HR628_0 HB hx636_0 hx636_1 hx636_2 hx636_3 hx637_0 hx637_1 hx637_2 hx637_3 hHeld ⊢
                      refine pq_ (i := 0) (N := some 75) HT_ #[tt, ff, ff, ff, ff, ff, ff, ff, ff, ff, ff, ff, ff, ff, ff, ff, ff, ff, ff, ff] ?_
                      refine pq_ (i := 1) (N := some 76) HT_ #[tt, tt, ff, ff, ff, ff, ff, ff, ff, ff, ff, ff, ff, ff, ff, ff, ff, ff, ff, ff] ?_
                      refine pq_ (i := 2) (N := some 77) HT_ #[tt, tt, tt, ff, ff, ff, ff, ff, ff, ff, ff, ff, ff, ff, ff, ff, ff, ff, ff, ff] ?_
                      refine pq_ (i := 3) (N := some 78) HT_ #[tt, tt, tt, tt, ff, ff, ff, ff, ff, ff, ff, ff, ff, ff, ff, ff, ff, ff, ff, ff] ?_
                      refine pq_ (i := 4) (N := some 79) HT_ #[tt, tt, tt, tt, tt, ff, ff, ff, ff, ff, ff, ff, ff, ff, ff, ff, ff, ff, ff, ff] ?_
                      refine pq_ (i := 5) (N := some 80) HT_ #[tt, tt, tt, tt, tt, tt, ff, ff, ff, ff, ff, ff, ff, ff, ff, ff, ff, ff, ff, ff] ?_
                      refine pq_ (i := 6) (N := some 81) HT_ #[tt, tt, tt, tt, tt, tt, tt, ff, ff, ff, ff, ff, ff, ff, ff, ff, ff, ff, ff, ff] ?_
                      refine pq_ (i := 7) (N := some 82) HT_ #[tt, tt, tt, tt, tt, tt, tt, tt, ff, ff, ff, ff, ff, ff, ff, ff, ff, ff, ff, ff] ?_
                      refine pq_ (i := 8) (N := some 83) HT_ #[tt, tt, tt, tt, tt, tt, tt, tt, tt, ff, ff, ff, ff, ff, ff, ff, ff, ff, ff, ff] ?_
                      refine pq_ (i := 9) (N := some 84) HT_ #[tt, tt, tt, tt, tt, tt, tt, tt, tt, tt, ff, ff, ff, ff, ff, ff, ff, ff, ff, ff] ?_
                      refine pq_ (i := 10) (N := some 85) HT_ #[tt, tt, tt, tt, tt, tt, tt, tt, tt, tt, tt, ff, ff, ff, ff, ff, ff, ff, ff, ff] ?_
                      refine pq_ (i := 12) (N := some 87) HT_ #[tt, tt, tt, tt, tt, tt, tt, tt, tt, tt, tt, ff, tt, ff, ff, ff, ff, ff, ff, ff] ?_
                      refine pq_ (i := 13) (N := some 88) HT_ #[tt, tt, tt, tt, tt, tt, tt, tt, tt, tt, tt, ff, tt, tt, ff, ff, ff, ff, ff, ff] ?_
                      refine pq_ (i := 14) (N := some 89) HT_ #[tt, tt, tt, tt, tt, tt, tt, tt, tt, tt, tt, ff, tt, tt, tt, ff, ff, ff, ff, ff] ?_
                      refine pq_ (i := 15) (N := some 90) HT_ #[tt, tt, tt, tt, tt, tt, tt, tt, tt, tt, tt, ff, tt, tt, tt, tt, ff, ff, ff, ff] ?_
                      refine take_ (i := 11) (N := some 86) (v := ?_) (a' := ?_) #[tt, tt, tt, tt, tt, tt, tt, tt, tt, tt, tt, tt, tt, tt, tt, tt, ff, ff, ff, ff] rfl rfl (take_ofW HT_.out HW_.out (by kernel_rfl)) (fun _ _ _ h => h) (Or.inl ⟨by rfl, ?_⟩) hHeld ?_ ?_
                      rotate_left
                      ·rintro w' ⟨s0, s1, s2, s3, s4, s5, s6, s7⟩
                       go_simp
                       with_reducible rfl
                      rotate_left
                      ·simp only [Act.put, List.setIfInBounds_toArray, List.set_cons_zero, List.set_cons_succ, i64_w, i32_w]
                       rfl
                      refine take_ (i := 16) (N := some 91) (v := ?_) (a' := ?_) #[tt, tt, tt, tt, tt, tt, tt, tt, tt, tt, tt, tt, tt, tt, tt, tt, tt, ff, ff, ff] rfl rfl (take_ofW HT_.out HW_.out (by kernel_rfl)) (fun _ _ _ h => h) (Or.inl ⟨by rfl, ?_⟩) hHeld ?_ ?_
                      rotate_left
                      ·rintro w' ⟨s0, s1, s2, s3, s4, s5, s6, s7⟩
                       go_simp
                       with_reducible rfl
                      rotate_left
                      ·simp only [Act.put, List.setIfInBounds_toArray, List.set_cons_zero, List.set_cons_succ, i64_w, i32_w]
                       rfl
                      refine pq_ (i := 17) (N := some 92) HT_ #[tt, tt, tt, tt, tt, tt, tt, tt, tt, tt, tt, tt, tt, tt, tt, tt, tt, tt, ff, ff] ?_
                      refine pq_ (i := 18) (N := some 93) HT_ #[tt, tt, tt, tt, tt, tt, tt, tt, tt, tt, tt, tt, tt, tt, tt, tt, tt, tt, tt, ff] ?_
                      refine pq_ (i := 19) (N := some 14) HT_ #[tt, tt, tt, tt, tt, tt, tt, tt, tt, tt, tt, tt, tt, tt, tt, tt, tt, tt, tt, tt] ?_
                      refine done_ (done_of HT_.out (by kernel_rfl)) ?_
                      have p638 : 0 ≤ (x11_2 : Int) := of_decide_eq_true (by first | (with_reducible assumption) | assumption)
                      have q638 : x11_2 < (t625.length : Int) := of_decide_eq_true (by first | (with_reducible assumption) | assumption)
                      obtain ⟨ad638, e638, hx638_0, hx638_1, hx638_2, hx638_3⟩ := at_T36 (Kd.R_reads' HO_10.out).2.2 x11_2 p638 q638
                      (try rw [← Nbq56.out] at hx638_2)
                      obtain rfl : ad629 = ad638 := (by injection e638)
                      replace p638 := eq_true p638
                      replace q638 := eq_true q638
                      try go_wp2
                      go_ret
                      exact ⟨by first | rfl | (simp [errW_none, errW_some] <;> rfl) | (simp only [← hji47]; first | rfl | (simp [errW_none, errW_some] <;> rfl)) | (simp [*, errW_none, errW_some] <;> rfl), by repeat (first | (with_reducible first | exact HB.out | apply below_alloc | apply pw_below_drewN | apply below_drew1) | exact HB.out)⟩
                     ·replace c57 := Bool.eq_false_iff.mpr c57
                      subst c57
                      have H1 : (moultlaw12_MergeNeeds.l0 k3 l1 true t620 t625 ji47) = some r := by rw [if_neg (show ¬ (false = true) by decide)] at H; exact H
                      clear H
                      have H := H1
                      clear H1
                      have H' := Aside0.mk H
                      clear H
                      try go_wp2
                      have n0_ := Aside0.mk (Kd.N_drew HO_8.out)
                      have n1_ := Aside0.mk (Kd.R_drew HO_10.out)
                      have n2_ := Aside0.mk (Kd.C_drew HR624_0.out)
                      have n3_ := Aside0.mk (Kd.C_drew HR628_0.out)
                      have n4_ := Aside0.mk (below_drew1 HB.out)
                      clear HO_8
                      clear HO_10
                      clear HR624_0
                      clear HR628_0
                      clear HB
                      have HO_8 := n0_
                      have HO_10 := n1_
                      have HR624_0 := n2_
                      have HR628_0 := n3_
                      have HB := n4_
                      clear n0_ n1_ n2_ n3_ n4_
                      have p636 : 0 ≤ ((ji47) : Int) := of_decide_eq_true (by first | (with_reducible assumption) | assumption)
                      have q636 : (ji47) < (t625.length : Int) := of_decide_eq_true (by first | (with_reducible assumption) | assumption)
                      obtain ⟨ad636, e636, hx636_0, hx636_1, hx636_2, hx636_3⟩ := at_T36 (Kd.R_reads' HO_10.out).2.2 (ji47) p636 q636
                      (try rw [← Nbq56.out] at hx636_2)
                      obtain rfl : ad629 = ad636 := (by injection e636)
                      replace p636 := eq_true p636
                      replace q636 := eq_true q636
                      have p637 : 0 ≤ (x11_2 : Int) := of_decide_eq_true (by first | (with_reducible assumption) | assumption)
                      have q637 : x11_2 < (t625.length : Int) := of_decide_eq_true (by first | (with_reducible assumption) | assumption)
                      obtain ⟨ad637, e637, hx637_0, hx637_1, hx637_2, hx637_3⟩ := at_T36 (Kd.R_reads' HO_10.out).2.2 x11_2 p637 q637
                      (try rw [← Nbq56.out] at hx637_2)
                      obtain rfl : ad629 = ad637 := (by injection e637)
                      replace p637 := eq_true p637
                      replace q637 := eq_true q637
                      refine start_ (n := 20) (S := fun w' => w'.cell? (ad629.add (((ji47)).toNat * 4)) = some (.string ((rd_T36 t625 (ji47)).f0)) ∧ w'.cell? ⟨(ad629.add (((ji47)).toNat * 4)).block, (ad629.add (((ji47)).toNat * 4)).off + 1, none⟩ = some (.int .i64 ((rd_T36 t625 (ji47)).f1)) ∧ w'.cell? ⟨(ad629.add (((ji47)).toNat * 4)).block, (ad629.add (((ji47)).toNat * 4)).off + 2, none⟩ = some (.bool ((rd_T36 t625 (ji47)).f2)) ∧ w'.cell? ⟨(ad629.add (((ji47)).toNat * 4)).block, (ad629.add (((ji47)).toNat * 4)).off + 3, none⟩ = some (.string ((rd_T36 t625 (ji47)).f3)) ∧ w'.cell? (ad629.add ((x11_2).toNat * 4)) = some (.string ((rd_T36 t625 x11_2).f0)) ∧ w'.cell? ⟨(ad629.add ((x11_2).toNat * 4)).block, (ad629.add ((x11_2).toNat * 4)).off + 1, none⟩ = some (.int .i64 ((rd_T36 t625 x11_2).f1)) ∧ w'.cell? ⟨(ad629.add ((x11_2).toNat * 4)).block, (ad629.add ((x11_2).toNat * 4)).off + 2, none⟩ = some (.bool false) ∧ w'.cell? ⟨(ad629.add ((x11_2).toNat * 4)).block, (ad629.add ((x11_2).toNat * 4)).off + 3, none⟩ = some (.string ((rd_T36 t625 x11_2).f3))) (ds := []) #[ff, ff, ff, ff, ff, ff, ff, ff, ff, ff, ff, ff, ff, ff, ff, ff, ff, ff, ff, ff] (by kernel_rfl) rfl rfl ⟨hx636_0, hx636_1, hx636_2, hx636_3, hx637_0, hx637_1, hx637_2, hx637_3⟩ (fun hHeld => ?_); refine with_tabW moultlaw12_MergeNeeds.tab14 moultlaw12_MergeNeeds.bits14 (fun HT_ HW_ => ?_)
                      generalize wr.drew = w59 at HO_8 HO_10 HR624_0 HR628_0 HB hx636_0 hx636_1 hx636_2 hx636_3 hx637_0 hx637_1 hx637_2 hx637_3 hHeld ⊢
                      refine pq_ (i := 0) (N := some 75) HT_ #[tt, ff, ff, ff, ff, ff, ff, ff, ff, ff, ff, ff, ff, ff, ff, ff, ff, ff, ff, ff] ?_
                      refine pq_ (i := 1) (N := some 76) HT_ #[tt, tt, ff, ff, ff, ff, ff, ff, ff, ff, ff, ff, ff, ff, ff, ff, ff, ff, ff, ff] ?_
                      refine pq_ (i := 2) (N := some 77) HT_ #[tt, tt, tt, ff, ff, ff, ff, ff, ff, ff, ff, ff, ff, ff, ff, ff, ff, ff, ff, ff] ?_
                      refine pq_ (i := 3) (N := some 78) HT_ #[tt, tt, tt, tt, ff, ff, ff, ff, ff, ff, ff, ff, ff, ff, ff, ff, ff, ff, ff, ff] ?_
                      refine pq_ (i := 4) (N := some 79) HT_ #[tt, tt, tt, tt, tt, ff, ff, ff, ff, ff, ff, ff, ff, ff, ff, ff, ff, ff, ff, ff] ?_
                      refine pq_ (i := 5) (N := some 80) HT_ #[tt, tt, tt, tt, tt, tt, ff, ff, ff, ff, ff, ff, ff, ff, ff, ff, ff, ff, ff, ff] ?_
                      refine pq_ (i := 6) (N := some 81) HT_ #[tt, tt, tt, tt, tt, tt, tt, ff, ff, ff, ff, ff, ff, ff, ff, ff, ff, ff, ff, ff] ?_
                      refine pq_ (i := 7) (N := some 82) HT_ #[tt, tt, tt, tt, tt, tt, tt, tt, ff, ff, ff, ff, ff, ff, ff, ff, ff, ff, ff, ff] ?_
                      refine pq_ (i := 8) (N := some 83) HT_ #[tt, tt, tt, tt, tt, tt, tt, tt, tt, ff, ff, ff, ff, ff, ff, ff, ff, ff, ff, ff] ?_
                      refine pq_ (i := 9) (N := some 84) HT_ #[tt, tt, tt, tt, tt, tt, tt, tt, tt, tt, ff, ff, ff, ff, ff, ff, ff, ff, ff, ff] ?_
                      refine pq_ (i := 10) (N := some 85) HT_ #[tt, tt, tt, tt, tt, tt, tt, tt, tt, tt, tt, ff, ff, ff, ff, ff, ff, ff, ff, ff] ?_
                      refine pq_ (i := 12) (N := some 87) HT_ #[tt, tt, tt, tt, tt, tt, tt, tt, tt, tt, tt, ff, tt, ff, ff, ff, ff, ff, ff, ff] ?_
                      refine pq_ (i := 13) (N := some 88) HT_ #[tt, tt, tt, tt, tt, tt, tt, tt, tt, tt, tt, ff, tt, tt, ff, ff, ff, ff, ff, ff] ?_
                      refine pq_ (i := 14) (N := some 89) HT_ #[tt, tt, tt, tt, tt, tt, tt, tt, tt, tt, tt, ff, tt, tt, tt, ff, ff, ff, ff, ff] ?_
                      refine pq_ (i := 15) (N := some 90) HT_ #[tt, tt, tt, tt, tt, tt, tt, tt, tt, tt, tt, ff, tt, tt, tt, tt, ff, ff, ff, ff] ?_
                      refine take_ (i := 11) (N := some 86) (v := ?_) (a' := ?_) #[tt, tt, tt, tt, tt, tt, tt, tt, tt, tt, tt, tt, tt, tt, tt, tt, ff, ff, ff, ff] rfl rfl (take_ofW HT_.out HW_.out (by kernel_rfl)) (fun _ _ _ h => h) (Or.inl ⟨by rfl, ?_⟩) hHeld ?_ ?_
                      rotate_left
                      ·rintro w' ⟨s0, s1, s2, s3, s4, s5, s6, s7⟩
                       go_simp
                       with_reducible rfl
                      rotate_left
                      ·simp only [Act.put, List.setIfInBounds_toArray, List.set_cons_zero, List.set_cons_succ, i64_w, i32_w]
                       rfl
                      refine take_ (i := 16) (N := some 91) (v := ?_) (a' := ?_) #[tt, tt, tt, tt, tt, tt, tt, tt, tt, tt, tt, tt, tt, tt, tt, tt, tt, ff, ff, ff] rfl rfl (take_ofW HT_.out HW_.out (by kernel_rfl)) (fun _ _ _ h => h) (Or.inl ⟨by rfl, ?_⟩) hHeld ?_ ?_
                      rotate_left
                      ·rintro w' ⟨s0, s1, s2, s3, s4, s5, s6, s7⟩
                       go_simp
                       with_reducible rfl
                      rotate_left
                      ·simp only [Act.put, List.setIfInBounds_toArray, List.set_cons_zero, List.set_cons_succ, i64_w, i32_w]
                       rfl
                      refine pq_ (i := 17) (N := some 92) HT_ #[tt, tt, tt, tt, tt, tt, tt, tt, tt, tt, tt, tt, tt, tt, tt, tt, tt, tt, ff, ff] ?_
                      refine pq_ (i := 18) (N := some 93) HT_ #[tt, tt, tt, tt, tt, tt, tt, tt, tt, tt, tt, tt, tt, tt, tt, tt, tt, tt, tt, ff] ?_
                      refine pq_ (i := 19) (N := some 14) HT_ #[tt, tt, tt, tt, tt, tt, tt, tt, tt, tt, tt, tt, tt, tt, tt, tt, tt, tt, tt, tt] ?_
                      refine done_ (done_of HT_.out (by kernel_rfl)) ?_
                      have p638 : 0 ≤ (x11_2 : Int) := of_decide_eq_true (by first | (with_reducible assumption) | assumption)
                      have q638 : x11_2 < (t625.length : Int) := of_decide_eq_true (by first | (with_reducible assumption) | assumption)
                      obtain ⟨ad638, e638, hx638_0, hx638_1, hx638_2, hx638_3⟩ := at_T36 (Kd.R_reads' HO_10.out).2.2 x11_2 p638 q638
                      (try rw [← Nbq56.out] at hx638_2)
                      obtain rfl : ad629 = ad638 := (by injection e638)
                      replace p638 := eq_true p638
                      replace q638 := eq_true q638
                      try go_wp2
                      go_roundg k3
                      case measure => have := HJ5.out; have := HK2.out; have := HK3.out; omega
                      case rel => exact ⟨(ji47), (by first | rfl | (simp; done) | (simp only [← hji47] <;> (first | rfl | simp)) | (simp [*]; done)), H', ⟨by have := HJ5.out; have := HK2.out; have := HK3.out; omega⟩, ⟨by (with_reducible repeat (first | apply Kd.N_alloc | apply Kd.N_drewN | apply Kd.N_drew)); exact HO_8.out⟩, ⟨by (with_reducible repeat (first | apply Kd.R_alloc | apply Kd.R_drewN | apply Kd.R_drew)); exact HO_10.out⟩, ⟨by repeat (first | (with_reducible exact HR624_0.out) | (with_reducible refine Kd.C_alloc ?_ _) | (with_reducible refine Kd.C_drewN ?_ _) | (with_reducible refine Kd.C_drew ?_) | exact HR624_0.out)⟩, ⟨by repeat (first | (with_reducible first | exact HB.out | apply below_alloc | apply pw_below_drewN | apply below_drew1) | exact HB.out)⟩⟩
                   ·replace c53 := Bool.eq_false_iff.mpr c53
                    subst c53
                    have H1 : (moultlaw12_MergeNeeds.l0 k3 l1 false t620 t625 ji47) = some r := by rw [if_neg (show ¬ (false = true) by decide)] at H; exact H
                    clear H
                    have H := H1
                    clear H1
                    have H' := Aside0.mk H
                    clear H
                    try go_wp2
                    have n0_ := Aside0.mk (Kd.N_drew HO_8.out)
                    have n1_ := Aside0.mk (Kd.R_drew HO_10.out)
                    have n2_ := Aside0.mk (Kd.C_drew HR624_0.out)
                    have n3_ := Aside0.mk (Kd.C_drew HR628_0.out)
                    have n4_ := Aside0.mk (below_drew1 HB.out)
                    clear HO_8
                    clear HO_10
                    clear HR624_0
                    clear HR628_0
                    clear HB
                    have HO_8 := n0_
                    have HO_10 := n1_
                    have HR624_0 := n2_
                    have HR628_0 := n3_
                    have HB := n4_
                    clear n0_ n1_ n2_ n3_ n4_
                    have p636 : 0 ≤ ((ji47) : Int) := of_decide_eq_true (by first | (with_reducible assumption) | assumption)
                    have q636 : (ji47) < (t625.length : Int) := of_decide_eq_true (by first | (with_reducible assumption) | assumption)
                    obtain ⟨ad636, e636, hx636_0, hx636_1, hx636_2, hx636_3⟩ := at_T36 (Kd.R_reads' HO_10.out).2.2 (ji47) p636 q636
                    obtain rfl : ad629 = ad636 := (by injection e636)
                    replace p636 := eq_true p636
                    replace q636 := eq_true q636
                    have p637 : 0 ≤ (x11_2 : Int) := of_decide_eq_true (by first | (with_reducible assumption) | assumption)
                    have q637 : x11_2 < (t625.length : Int) := of_decide_eq_true (by first | (with_reducible assumption) | assumption)
                    obtain ⟨ad637, e637, hx637_0, hx637_1, hx637_2, hx637_3⟩ := at_T36 (Kd.R_reads' HO_10.out).2.2 x11_2 p637 q637
                    obtain rfl : ad629 = ad637 := (by injection e637)
                    replace p637 := eq_true p637
                    replace q637 := eq_true q637
                    refine start_ (n := 20) (S := fun w' => w'.cell? (ad629.add (((ji47)).toNat * 4)) = some (.string ((rd_T36 t625 (ji47)).f0)) ∧ w'.cell? ⟨(ad629.add (((ji47)).toNat * 4)).block, (ad629.add (((ji47)).toNat * 4)).off + 1, none⟩ = some (.int .i64 ((rd_T36 t625 (ji47)).f1)) ∧ w'.cell? ⟨(ad629.add (((ji47)).toNat * 4)).block, (ad629.add (((ji47)).toNat * 4)).off + 2, none⟩ = some (.bool ((rd_T36 t625 (ji47)).f2)) ∧ w'.cell? ⟨(ad629.add (((ji47)).toNat * 4)).block, (ad629.add (((ji47)).toNat * 4)).off + 3, none⟩ = some (.string ((rd_T36 t625 (ji47)).f3)) ∧ w'.cell? (ad629.add ((x11_2).toNat * 4)) = some (.string ((rd_T36 t625 x11_2).f0)) ∧ w'.cell? ⟨(ad629.add ((x11_2).toNat * 4)).block, (ad629.add ((x11_2).toNat * 4)).off + 1, none⟩ = some (.int .i64 ((rd_T36 t625 x11_2).f1)) ∧ w'.cell? ⟨(ad629.add ((x11_2).toNat * 4)).block, (ad629.add ((x11_2).toNat * 4)).off + 2, none⟩ = some (.bool ((rd_T36 t625 x11_2).f2)) ∧ w'.cell? ⟨(ad629.add ((x11_2).toNat * 4)).block, (ad629.add ((x11_2).toNat * 4)).off + 3, none⟩ = some (.string ((rd_T36 t625 x11_2).f3))) (ds := []) #[ff, ff, ff, ff, ff, ff, ff, ff, ff, ff, ff, ff, ff, ff, ff, ff, ff, ff, ff, ff] (by kernel_rfl) rfl rfl ⟨hx636_0, hx636_1, hx636_2, hx636_3, hx637_0, hx637_1, hx637_2, hx637_3⟩ (fun hHeld => ?_); refine with_tabW moultlaw12_MergeNeeds.tab14 moultlaw12_MergeNeeds.bits14 (fun HT_ HW_ => ?_)
                    generalize wr.drew = w60 at HO_8 HO_10 HR624_0 HR628_0 HB hx636_0 hx636_1 hx636_2 hx636_3 hx637_0 hx637_1 hx637_2 hx637_3 hHeld ⊢
                    refine pq_ (i := 0) (N := some 75) HT_ #[tt, ff, ff, ff, ff, ff, ff, ff, ff, ff, ff, ff, ff, ff, ff, ff, ff, ff, ff, ff] ?_
                    refine pq_ (i := 1) (N := some 76) HT_ #[tt, tt, ff, ff, ff, ff, ff, ff, ff, ff, ff, ff, ff, ff, ff, ff, ff, ff, ff, ff] ?_
                    refine pq_ (i := 2) (N := some 77) HT_ #[tt, tt, tt, ff, ff, ff, ff, ff, ff, ff, ff, ff, ff, ff, ff, ff, ff, ff, ff, ff] ?_
                    refine pq_ (i := 3) (N := some 78) HT_ #[tt, tt, tt, tt, ff, ff, ff, ff, ff, ff, ff, ff, ff, ff, ff, ff, ff, ff, ff, ff] ?_
                    refine pq_ (i := 4) (N := some 79) HT_ #[tt, tt, tt, tt, tt, ff, ff, ff, ff, ff, ff, ff, ff, ff, ff, ff, ff, ff, ff, ff] ?_
                    refine pq_ (i := 5) (N := some 80) HT_ #[tt, tt, tt, tt, tt, tt, ff, ff, ff, ff, ff, ff, ff, ff, ff, ff, ff, ff, ff, ff] ?_
                    refine pq_ (i := 6) (N := some 81) HT_ #[tt, tt, tt, tt, tt, tt, tt, ff, ff, ff, ff, ff, ff, ff, ff, ff, ff, ff, ff, ff] ?_
                    refine pq_ (i := 7) (N := some 82) HT_ #[tt, tt, tt, tt, tt, tt, tt, tt, ff, ff, ff, ff, ff, ff, ff, ff, ff, ff, ff, ff] ?_
                    refine pq_ (i := 8) (N := some 83) HT_ #[tt, tt, tt, tt, tt, tt, tt, tt, tt, ff, ff, ff, ff, ff, ff, ff, ff, ff, ff, ff] ?_
                    refine pq_ (i := 9) (N := some 84) HT_ #[tt, tt, tt, tt, tt, tt, tt, tt, tt, tt, ff, ff, ff, ff, ff, ff, ff, ff, ff, ff] ?_
                    refine pq_ (i := 10) (N := some 85) HT_ #[tt, tt, tt, tt, tt, tt, tt, tt, tt, tt, tt, ff, ff, ff, ff, ff, ff, ff, ff, ff] ?_
                    refine pq_ (i := 12) (N := some 87) HT_ #[tt, tt, tt, tt, tt, tt, tt, tt, tt, tt, tt, ff, tt, ff, ff, ff, ff, ff, ff, ff] ?_
                    refine pq_ (i := 13) (N := some 88) HT_ #[tt, tt, tt, tt, tt, tt, tt, tt, tt, tt, tt, ff, tt, tt, ff, ff, ff, ff, ff, ff] ?_
                    refine pq_ (i := 14) (N := some 89) HT_ #[tt, tt, tt, tt, tt, tt, tt, tt, tt, tt, tt, ff, tt, tt, tt, ff, ff, ff, ff, ff] ?_
                    refine pq_ (i := 15) (N := some 90) HT_ #[tt, tt, tt, tt, tt, tt, tt, tt, tt, tt, tt, ff, tt, tt, tt, tt, ff, ff, ff, ff] ?_
                    refine take_ (i := 11) (N := some 86) (v := ?_) (a' := ?_) #[tt, tt, tt, tt, tt, tt, tt, tt, tt, tt, tt, tt, tt, tt, tt, tt, ff, ff, ff, ff] rfl rfl (take_ofW HT_.out HW_.out (by kernel_rfl)) (fun _ _ _ h => h) (Or.inl ⟨by rfl, ?_⟩) hHeld ?_ ?_
                    rotate_left
                    ·rintro w' ⟨s0, s1, s2, s3, s4, s5, s6, s7⟩
                     go_simp
                     with_reducible rfl
                    rotate_left
                    ·simp only [Act.put, List.setIfInBounds_toArray, List.set_cons_zero, List.set_cons_succ, i64_w, i32_w]
                     rfl
                    refine take_ (i := 16) (N := some 91) (v := ?_) (a' := ?_) #[tt, tt, tt, tt, tt, tt, tt, tt, tt, tt, tt, tt, tt, tt, tt, tt, tt, ff, ff, ff] rfl rfl (take_ofW HT_.out HW_.out (by kernel_rfl)) (fun _ _ _ h => h) (Or.inl ⟨by rfl, ?_⟩) hHeld ?_ ?_
                    rotate_left
                    ·rintro w' ⟨s0, s1, s2, s3, s4, s5, s6, s7⟩
                     go_simp
                     with_reducible rfl
                    rotate_left
                    ·simp only [Act.put, List.setIfInBounds_toArray, List.set_cons_zero, List.set_cons_succ, i64_w, i32_w]
                     rfl
                    refine pq_ (i := 17) (N := some 92) HT_ #[tt, tt, tt, tt, tt, tt, tt, tt, tt, tt, tt, tt, tt, tt, tt, tt, tt, tt, ff, ff] ?_
                    refine pq_ (i := 18) (N := some 93) HT_ #[tt, tt, tt, tt, tt, tt, tt, tt, tt, tt, tt, tt, tt, tt, tt, tt, tt, tt, tt, ff] ?_
                    refine pq_ (i := 19) (N := some 14) HT_ #[tt, tt, tt, tt, tt, tt, tt, tt, tt, tt, tt, tt, tt, tt, tt, tt, tt, tt, tt, tt] ?_
                    refine done_ (done_of HT_.out (by kernel_rfl)) ?_
                    try go_wp2
                    go_roundg k3
                    case measure => have := HJ5.out; have := HK2.out; have := HK3.out; omega
                    case rel => exact ⟨(ji47), (by first | rfl | (simp; done) | (simp only [← hji47] <;> (first | rfl | simp)) | (simp [*]; done)), H', ⟨by have := HJ5.out; have := HK2.out; have := HK3.out; omega⟩, ⟨by (with_reducible repeat (first | apply Kd.N_alloc | apply Kd.N_drewN | apply Kd.N_drew)); exact HO_8.out⟩, ⟨by (with_reducible repeat (first | apply Kd.R_alloc | apply Kd.R_drewN | apply Kd.R_drew)); exact HO_10.out⟩, ⟨by repeat (first | (with_reducible exact HR624_0.out) | (with_reducible refine Kd.C_alloc ?_ _) | (with_reducible refine Kd.C_drewN ?_ _) | (with_reducible refine Kd.C_drew ?_) | exact HR624_0.out)⟩, ⟨by repeat (first | (with_reducible first | exact HB.out | apply below_alloc | apply pw_below_drewN | apply below_drew1) | exact HB.out)⟩⟩
                  ·replace c52 := Bool.eq_false_iff.mpr c52
                   subst c52
                   have H1 : (some false) = some r := by rw [if_neg (show ¬ (false = true) by decide)] at H; exact H
                   clear H
                   have H := H1
                   clear H1
                   obtain rfl := Option.some.inj H
                   try go_wp2
                   have n0_ := Aside0.mk (Kd.N_drew HO_8.out)
                   have n1_ := Aside0.mk (Kd.R_drew HO_10.out)
                   have n2_ := Aside0.mk (Kd.C_drew HR624_0.out)
                   have n3_ := Aside0.mk (Kd.C_drew HR628_0.out)
                   have n4_ := Aside0.mk (below_drew1 HB.out)
                   clear HO_8
                   clear HO_10
                   clear HR624_0
                   clear HR628_0
                   clear HB
                   have HO_8 := n0_
                   have HO_10 := n1_
                   have HR624_0 := n2_
                   have HR628_0 := n3_
                   have HB := n4_
                   clear n0_ n1_ n2_ n3_ n4_
                   have p636 : 0 ≤ ((ji47) : Int) := of_decide_eq_true (by first | (with_reducible assumption) | assumption)
                   have q636 : (ji47) < (t625.length : Int) := of_decide_eq_true (by first | (with_reducible assumption) | assumption)
                   obtain ⟨ad636, e636, hx636_0, hx636_1, hx636_2, hx636_3⟩ := at_T36 (Kd.R_reads' HO_10.out).2.2 (ji47) p636 q636
                   obtain rfl : ad629 = ad636 := (by injection e636)
                   replace p636 := eq_true p636
                   replace q636 := eq_true q636
                   have p637 : 0 ≤ (x11_2 : Int) := of_decide_eq_true (by first | (with_reducible assumption) | assumption)
                   have q637 : x11_2 < (t625.length : Int) := of_decide_eq_true (by first | (with_reducible assumption) | assumption)
                   obtain ⟨ad637, e637, hx637_0, hx637_1, hx637_2, hx637_3⟩ := at_T36 (Kd.R_reads' HO_10.out).2.2 x11_2 p637 q637
                   obtain rfl : ad629 = ad637 := (by injection e637)
                   replace p637 := eq_true p637
                   replace q637 := eq_true q637
                   refine start_ (n := 20) (S := fun w' => w'.cell? (ad629.add (((ji47)).toNat * 4)) = some (.string ((rd_T36 t625 (ji47)).f0)) ∧ w'.cell? ⟨(ad629.add (((ji47)).toNat * 4)).block, (ad629.add (((ji47)).toNat * 4)).off + 1, none⟩ = some (.int .i64 ((rd_T36 t625 (ji47)).f1)) ∧ w'.cell? ⟨(ad629.add (((ji47)).toNat * 4)).block, (ad629.add (((ji47)).toNat * 4)).off + 2, none⟩ = some (.bool ((rd_T36 t625 (ji47)).f2)) ∧ w'.cell? ⟨(ad629.add (((ji47)).toNat * 4)).block, (ad629.add (((ji47)).toNat * 4)).off + 3, none⟩ = some (.string ((rd_T36 t625 (ji47)).f3)) ∧ w'.cell? (ad629.add ((x11_2).toNat * 4)) = some (.string ((rd_T36 t625 x11_2).f0)) ∧ w'.cell? ⟨(ad629.add ((x11_2).toNat * 4)).block, (ad629.add ((x11_2).toNat * 4)).off + 1, none⟩ = some (.int .i64 ((rd_T36 t625 x11_2).f1)) ∧ w'.cell? ⟨(ad629.add ((x11_2).toNat * 4)).block, (ad629.add ((x11_2).toNat * 4)).off + 2, none⟩ = some (.bool ((rd_T36 t625 x11_2).f2)) ∧ w'.cell? ⟨(ad629.add ((x11_2).toNat * 4)).block, (ad629.add ((x11_2).toNat * 4)).off + 3, none⟩ = some (.string ((rd_T36 t625 x11_2).f3))) (ds := []) #[ff, ff, ff, ff, ff, ff, ff, ff, ff, ff, ff, ff, ff, ff, ff, ff, ff, ff, ff, ff] (by kernel_rfl) rfl rfl ⟨hx636_0, hx636_1, hx636_2, hx636_3, hx637_0, hx637_1, hx637_2, hx637_3⟩ (fun hHeld => ?_); refine with_tabW moultlaw12_MergeNeeds.tab14 moultlaw12_MergeNeeds.bits14 (fun HT_ HW_ => ?_)
                   generalize wr.drew = w61 at HO_8 HO_10 HR624_0 HR628_0 HB hx636_0 hx636_1 hx636_2 hx636_3 hx637_0 hx637_1 hx637_2 hx637_3 hHeld ⊢
                   refine pq_ (i := 0) (N := some 75) HT_ #[tt, ff, ff, ff, ff, ff, ff, ff, ff, ff, ff, ff, ff, ff, ff, ff, ff, ff, ff, ff] ?_
                   refine pq_ (i := 1) (N := some 76) HT_ #[tt, tt, ff, ff, ff, ff, ff, ff, ff, ff, ff, ff, ff, ff, ff, ff, ff, ff, ff, ff] ?_
                   refine pq_ (i := 2) (N := some 77) HT_ #[tt, tt, tt, ff, ff, ff, ff, ff, ff, ff, ff, ff, ff, ff, ff, ff, ff, ff, ff, ff] ?_
                   refine pq_ (i := 3) (N := some 78) HT_ #[tt, tt, tt, tt, ff, ff, ff, ff, ff, ff, ff, ff, ff, ff, ff, ff, ff, ff, ff, ff] ?_
                   refine pq_ (i := 4) (N := some 79) HT_ #[tt, tt, tt, tt, tt, ff, ff, ff, ff, ff, ff, ff, ff, ff, ff, ff, ff, ff, ff, ff] ?_
                   refine pq_ (i := 5) (N := some 80) HT_ #[tt, tt, tt, tt, tt, tt, ff, ff, ff, ff, ff, ff, ff, ff, ff, ff, ff, ff, ff, ff] ?_
                   refine pq_ (i := 6) (N := some 81) HT_ #[tt, tt, tt, tt, tt, tt, tt, ff, ff, ff, ff, ff, ff, ff, ff, ff, ff, ff, ff, ff] ?_
                   refine pq_ (i := 7) (N := some 82) HT_ #[tt, tt, tt, tt, tt, tt, tt, tt, ff, ff, ff, ff, ff, ff, ff, ff, ff, ff, ff, ff] ?_
                   refine pq_ (i := 8) (N := some 83) HT_ #[tt, tt, tt, tt, tt, tt, tt, tt, tt, ff, ff, ff, ff, ff, ff, ff, ff, ff, ff, ff] ?_
                   refine pq_ (i := 9) (N := some 84) HT_ #[tt, tt, tt, tt, tt, tt, tt, tt, tt, tt, ff, ff, ff, ff, ff, ff, ff, ff, ff, ff] ?_
                   refine pq_ (i := 10) (N := some 85) HT_ #[tt, tt, tt, tt, tt, tt, tt, tt, tt, tt, tt, ff, ff, ff, ff, ff, ff, ff, ff, ff] ?_
                   refine pq_ (i := 12) (N := some 87) HT_ #[tt, tt, tt, tt, tt, tt, tt, tt, tt, tt, tt, ff, tt, ff, ff, ff, ff, ff, ff, ff] ?_
                   refine pq_ (i := 13) (N := some 88) HT_ #[tt, tt, tt, tt, tt, tt, tt, tt, tt, tt, tt, ff, tt, tt, ff, ff, ff, ff, ff, ff] ?_
                   refine pq_ (i := 14) (N := some 89) HT_ #[tt, tt, tt, tt, tt, tt, tt, tt, tt, tt, tt, ff, tt, tt, tt, ff, ff, ff, ff, ff] ?_
                   refine pq_ (i := 15) (N := some 90) HT_ #[tt, tt, tt, tt, tt, tt, tt, tt, tt, tt, tt, ff, tt, tt, tt, tt, ff, ff, ff, ff] ?_
                   refine take_ (i := 11) (N := some 86) (v := ?_) (a' := ?_) #[tt, tt, tt, tt, tt, tt, tt, tt, tt, tt, tt, tt, tt, tt, tt, tt, ff, ff, ff, ff] rfl rfl (take_ofW HT_.out HW_.out (by kernel_rfl)) (fun _ _ _ h => h) (Or.inl ⟨by rfl, ?_⟩) hHeld ?_ ?_
                   rotate_left
                   ·rintro w' ⟨s0, s1, s2, s3, s4, s5, s6, s7⟩
                    go_simp
                    with_reducible rfl
                   rotate_left
                   ·simp only [Act.put, List.setIfInBounds_toArray, List.set_cons_zero, List.set_cons_succ, i64_w, i32_w]
                    rfl
                   refine take_ (i := 16) (N := some 91) (v := ?_) (a' := ?_) #[tt, tt, tt, tt, tt, tt, tt, tt, tt, tt, tt, tt, tt, tt, tt, tt, tt, ff, ff, ff] rfl rfl (take_ofW HT_.out HW_.out (by kernel_rfl)) (fun _ _ _ h => h) (Or.inl ⟨by rfl, ?_⟩) hHeld ?_ ?_
                   rotate_left
                   ·rintro w' ⟨s0, s1, s2, s3, s4, s5, s6, s7⟩
                    go_simp
                    with_reducible rfl
                   rotate_left
                   ·simp only [Act.put, List.setIfInBounds_toArray, List.set_cons_zero, List.set_cons_succ, i64_w, i32_w]
                    rfl
                   refine pq_ (i := 17) (N := some 92) HT_ #[tt, tt, tt, tt, tt, tt, tt, tt, tt, tt, tt, tt, tt, tt, tt, tt, tt, tt, ff, ff] ?_
                   refine pq_ (i := 18) (N := some 93) HT_ #[tt, tt, tt, tt, tt, tt, tt, tt, tt, tt, tt, tt, tt, tt, tt, tt, tt, tt, tt, ff] ?_
                   refine pq_ (i := 19) (N := some 14) HT_ #[tt, tt, tt, tt, tt, tt, tt, tt, tt, tt, tt, tt, tt, tt, tt, tt, tt, tt, tt, tt] ?_
                   refine done_ (done_of HT_.out (by kernel_rfl)) ?_
                   try go_wp2
                   go_ret
                   exact ⟨by first | rfl | (simp [errW_none, errW_some] <;> rfl) | (simp only [← hji47]; first | rfl | (simp [errW_none, errW_some] <;> rfl)) | (simp [*, errW_none, errW_some] <;> rfl), by repeat (first | (with_reducible first | exact HB.out | apply below_alloc | apply pw_below_drewN | apply below_drew1) | exact HB.out)⟩
                 ·rw [if_neg c51] at H
                  exact absurd H (by simp)
                ·rw [if_neg c50] at H
                 exact absurd H (by simp)
               ·rw [if_neg c49] at H
                exact absurd H (by simp)
              ·rw [if_neg c48] at H
               exact absurd H (by simp)
         ·rw [if_neg c21] at H
          exact absurd H (by simp)
        ·rw [if_neg c20] at H
         exact absurd H (by simp)
       ·rw [if_neg c19] at H
        have c19b0 : decide (x11_2 < (t625.length : Int)) = false := decide_eq_false c19
        clear c19
        obtain rfl := Option.some.inj H
        obtain ⟨Ao62, co62, eo62⟩ := Kd.R_slice HO_10.out
        subst eo62
        go_wp2
        go_ret
        exact ⟨by first | rfl | (simp [errW_none, errW_some] <;> rfl) | (simp [*, errW_none, errW_some] <;> rfl), by repeat (first | (with_reducible first | exact HB.out | apply below_alloc | apply pw_below_drewN | apply below_drew1) | exact HB.out)⟩
    ·rw [if_neg c15] at H
     exact absurd H (by simp)

end Go.Proofs.Ythdoanbadhfhjaa.PAll
