-- Laid by ownprint.py (a program of the session, in wip/tools), out of the translation: Lean checks it.
import Derived.Test.YthdoanbadhfhjaaPAllx0
import Derived.Test.YthdoanbadhfhjaaPAllx4
import Derived.Test.YthdoanbadhfhjaaPAllx8
import Derived.Test.YthdoanbadhfhjaaPAllx9
import Derived.Test.YthdoanbadhfhjaaPAllx12
import Derived.Test.YthdoanbadhfhjaaPAllx22
import Derived.Test.YthdoanbadhfhjaaPAllx15
import Derived.Test.YthdoanbadhfhjaaGv
namespace Go.Proofs.Ythdoanbadhfhjaa.PAll
open Go.RowKit Go.Proofs.YthdoanbadhfhjaaW.PrintWords Go.Proofs.YthdoanbadhfhjaaW.PrintLast Go.Proofs.YthdoanbadhfhjaaW.PrintMore
attribute [local go_sem] max2_int min2_int max_two min_two max_three min_three max_four min_four   -- for this text's walks alone
set_option linter.unusedVariables false
set_option linter.unusedSimpArgs false

/-! ### moultlaw12_MergeSorts: function 4 -/
mutual
def moultlaw12_MergeSorts.j0 : Nat → List (S36) → Bool → List (List (S36)) → Bool → Option (Bool)
 | 0, _, _, _, _ => none
 | k + 1, x1, x5, x6, x30 => if x30 = true then (some x5) else ((merge_Sorted.f k x1).bind fun t472 => ((moultref12_Sorted.f k x1).bind fun t473 => (if (t472 != t473) = true then (some false) else ((merge_Merge.f k x6).bind fun t474 => ((merge_Sorted.f k t474).bind fun t477 => (if t477 = true then (moultlaw12_MergeSorts.l0 k x6 t474 0) else (some false)))))))
def moultlaw12_MergeSorts.l0 : Nat → List (List (S36)) → List (S36) → Int → Option (Bool)
 | 0, _, _, _ => none
 | k + 1, x6, x9, x10 => if x10 < (x9.length : Int) then (if 0 ≤ x10 then ((moultlaw12_has.f k x6 ((rd_T36 x9 x10).f0) ((rd_T36 x9 x10).f1) ((rd_T36 x9 x10).f2) ((rd_T36 x9 x10).f3)).bind fun t479 => (if t479 = true then (moultlaw12_MergeSorts.l0 k x6 x9 (wrap64 (x10 + 1))) else (some false))) else (none)) else (moultlaw12_MergeSorts.l1 k x6 x9 0)
def moultlaw12_MergeSorts.l1 : Nat → List (List (S36)) → List (S36) → Int → Option (Bool)
 | 0, _, _, _ => none
 | k + 1, x6, x9, x11 => if x11 < (x6.length : Int) then (moultlaw12_MergeSorts.l2 k x6 x9 x11 0) else (some true)
def moultlaw12_MergeSorts.l2 : Nat → List (List (S36)) → List (S36) → Int → Int → Option (Bool)
 | 0, _, _, _, _ => none
 | k + 1, x6, x9, x11, x12 => if 0 ≤ x11 then (if x11 < (x6.length : Int) then (if x12 < ((rd_L4 x6 x11).length : Int) then (if 0 ≤ x12 then ((moultlaw12_known.f k x9 ((rd_T36 (rd_L4 x6 x11) x12).f0) ((rd_T36 (rd_L4 x6 x11) x12).f1) ((rd_T36 (rd_L4 x6 x11) x12).f2) ((rd_T36 (rd_L4 x6 x11) x12).f3)).bind fun t483 => (if t483 = true then (moultlaw12_MergeSorts.l2 k x6 x9 x11 (wrap64 (x12 + 1))) else (some false))) else (none)) else (moultlaw12_MergeSorts.l1 k x6 x9 (wrap64 (x11 + 1)))) else (none)) else (none)
end
def moultlaw12_MergeSorts.f (k : Nat) (l0 : List (List (S36))) (l1 : List (S36)) : Option (Bool) := (moultlaw12_shown.f k).bind fun t466 => ((moultlaw12_rows.f k l0).bind fun bt467 => ((moultlaw12_small.f k l1).bind fun t471 => (if t466 = true then (if bt467.2 = true then (moultlaw12_MergeSorts.j0 k l1 t466 bt467.1 (!t471)) else (moultlaw12_MergeSorts.j0 k l1 t466 bt467.1 true)) else (moultlaw12_MergeSorts.j0 k l1 t466 bt467.1 true))))
theorem moultlaw12_MergeSorts.mono_l : ∀ k, (∀ y0 y1 y2 y3, LeO (moultlaw12_MergeSorts.j0 k y0 y1 y2 y3) (moultlaw12_MergeSorts.j0 (k + 1) y0 y1 y2 y3)) ∧ (∀ y0 y1 y2, LeO (moultlaw12_MergeSorts.l0 k y0 y1 y2) (moultlaw12_MergeSorts.l0 (k + 1) y0 y1 y2)) ∧ (∀ y0 y1 y2, LeO (moultlaw12_MergeSorts.l1 k y0 y1 y2) (moultlaw12_MergeSorts.l1 (k + 1) y0 y1 y2)) ∧ (∀ y0 y1 y2 y3, LeO (moultlaw12_MergeSorts.l2 k y0 y1 y2 y3) (moultlaw12_MergeSorts.l2 (k + 1) y0 y1 y2 y3))
 | 0 => ⟨fun _ _ _ _ r h => by simp [moultlaw12_MergeSorts.j0] at h, fun _ _ _ r h => by simp [moultlaw12_MergeSorts.l0] at h, fun _ _ _ r h => by simp [moultlaw12_MergeSorts.l1] at h, fun _ _ _ _ r h => by simp [moultlaw12_MergeSorts.l2] at h⟩
 | k + 1 => by
  obtain ⟨ih0, ih1, ih2, ih3⟩ := moultlaw12_MergeSorts.mono_l k
  refine ⟨?_, ?_, ?_, ?_⟩
  ·intro y0 y1 y2 y3
   unfold moultlaw12_MergeSorts.j0
   repeat' first
   | (with_reducible exact ih0 _ _ _ _)
   | (with_reducible exact ih1 _ _ _)
   | (with_reducible exact ih2 _ _ _)
   | (with_reducible exact ih3 _ _ _ _)
   | (with_reducible exact merge_Merge.mono _ _)
   | (with_reducible exact merge_Sorted.mono _ _)
   | (with_reducible exact moultlaw12_has.mono _ _ _ _ _ _)
   | (with_reducible exact moultlaw12_known.mono _ _ _ _ _ _)
   | (with_reducible exact moultlaw12_rows.mono _ _)
   | (with_reducible exact moultlaw12_shown.mono _)
   | (with_reducible exact moultlaw12_small.mono _ _)
   | (with_reducible exact moultref12_Sorted.mono _ _)
   | (with_reducible exact LeO.refl _)
   | (with_reducible exact LeO.none _)
   | (with_reducible refine LeO.ite ?_ ?_)
   | (with_reducible refine LeO.bind ?_ (fun _ => ?_))
   | exact ih0 _ _ _ _
   | exact ih1 _ _ _
   | exact ih2 _ _ _
   | exact ih3 _ _ _ _
   | exact merge_Merge.mono _ _
   | exact merge_Sorted.mono _ _
   | exact moultlaw12_has.mono _ _ _ _ _ _
   | exact moultlaw12_known.mono _ _ _ _ _ _
   | exact moultlaw12_rows.mono _ _
   | exact moultlaw12_shown.mono _
   | exact moultlaw12_small.mono _ _
   | exact moultref12_Sorted.mono _ _
   | exact LeO.none _
   | refine LeO.ite ?_ ?_
   | refine LeO.bind ?_ (fun _ => ?_)
  ·intro y0 y1 y2
   unfold moultlaw12_MergeSorts.l0
   repeat' first
   | (with_reducible exact ih0 _ _ _ _)
   | (with_reducible exact ih1 _ _ _)
   | (with_reducible exact ih2 _ _ _)
   | (with_reducible exact ih3 _ _ _ _)
   | (with_reducible exact merge_Merge.mono _ _)
   | (with_reducible exact merge_Sorted.mono _ _)
   | (with_reducible exact moultlaw12_has.mono _ _ _ _ _ _)
   | (with_reducible exact moultlaw12_known.mono _ _ _ _ _ _)
   | (with_reducible exact moultlaw12_rows.mono _ _)
   | (with_reducible exact moultlaw12_shown.mono _)
   | (with_reducible exact moultlaw12_small.mono _ _)
   | (with_reducible exact moultref12_Sorted.mono _ _)
   | (with_reducible exact LeO.refl _)
   | (with_reducible exact LeO.none _)
   | (with_reducible refine LeO.ite ?_ ?_)
   | (with_reducible refine LeO.bind ?_ (fun _ => ?_))
   | exact ih0 _ _ _ _
   | exact ih1 _ _ _
   | exact ih2 _ _ _
   | exact ih3 _ _ _ _
   | exact merge_Merge.mono _ _
   | exact merge_Sorted.mono _ _
   | exact moultlaw12_has.mono _ _ _ _ _ _
   | exact moultlaw12_known.mono _ _ _ _ _ _
   | exact moultlaw12_rows.mono _ _
   | exact moultlaw12_shown.mono _
   | exact moultlaw12_small.mono _ _
   | exact moultref12_Sorted.mono _ _
   | exact LeO.none _
   | refine LeO.ite ?_ ?_
   | refine LeO.bind ?_ (fun _ => ?_)
  ·intro y0 y1 y2
   unfold moultlaw12_MergeSorts.l1
   repeat' first
   | (with_reducible exact ih0 _ _ _ _)
   | (with_reducible exact ih1 _ _ _)
   | (with_reducible exact ih2 _ _ _)
   | (with_reducible exact ih3 _ _ _ _)
   | (with_reducible exact merge_Merge.mono _ _)
   | (with_reducible exact merge_Sorted.mono _ _)
   | (with_reducible exact moultlaw12_has.mono _ _ _ _ _ _)
   | (with_reducible exact moultlaw12_known.mono _ _ _ _ _ _)
   | (with_reducible exact moultlaw12_rows.mono _ _)
   | (with_reducible exact moultlaw12_shown.mono _)
   | (with_reducible exact moultlaw12_small.mono _ _)
   | (with_reducible exact moultref12_Sorted.mono _ _)
   | (with_reducible exact LeO.refl _)
   | (with_reducible exact LeO.none _)
   | (with_reducible refine LeO.ite ?_ ?_)
   | (with_reducible refine LeO.bind ?_ (fun _ => ?_))
   | exact ih0 _ _ _ _
   | exact ih1 _ _ _
   | exact ih2 _ _ _
   | exact ih3 _ _ _ _
   | exact merge_Merge.mono _ _
   | exact merge_Sorted.mono _ _
   | exact moultlaw12_has.mono _ _ _ _ _ _
   | exact moultlaw12_known.mono _ _ _ _ _ _
   | exact moultlaw12_rows.mono _ _
   | exact moultlaw12_shown.mono _
   | exact moultlaw12_small.mono _ _
   | exact moultref12_Sorted.mono _ _
   | exact LeO.none _
   | refine LeO.ite ?_ ?_
   | refine LeO.bind ?_ (fun _ => ?_)
  ·intro y0 y1 y2 y3
   unfold moultlaw12_MergeSorts.l2
   repeat' first
   | (with_reducible exact ih0 _ _ _ _)
   | (with_reducible exact ih1 _ _ _)
   | (with_reducible exact ih2 _ _ _)
   | (with_reducible exact ih3 _ _ _ _)
   | (with_reducible exact merge_Merge.mono _ _)
   | (with_reducible exact merge_Sorted.mono _ _)
   | (with_reducible exact moultlaw12_has.mono _ _ _ _ _ _)
   | (with_reducible exact moultlaw12_known.mono _ _ _ _ _ _)
   | (with_reducible exact moultlaw12_rows.mono _ _)
   | (with_reducible exact moultlaw12_shown.mono _)
   | (with_reducible exact moultlaw12_small.mono _ _)
   | (with_reducible exact moultref12_Sorted.mono _ _)
   | (with_reducible exact LeO.refl _)
   | (with_reducible exact LeO.none _)
   | (with_reducible refine LeO.ite ?_ ?_)
   | (with_reducible refine LeO.bind ?_ (fun _ => ?_))
   | exact ih0 _ _ _ _
   | exact ih1 _ _ _
   | exact ih2 _ _ _
   | exact ih3 _ _ _ _
   | exact merge_Merge.mono _ _
   | exact merge_Sorted.mono _ _
   | exact moultlaw12_has.mono _ _ _ _ _ _
   | exact moultlaw12_known.mono _ _ _ _ _ _
   | exact moultlaw12_rows.mono _ _
   | exact moultlaw12_shown.mono _
   | exact moultlaw12_small.mono _ _
   | exact moultref12_Sorted.mono _ _
   | exact LeO.none _
   | refine LeO.ite ?_ ?_
   | refine LeO.bind ?_ (fun _ => ?_)
theorem moultlaw12_MergeSorts.mono : ∀ a0 a1 k, LeO (moultlaw12_MergeSorts.f k a0 a1) (moultlaw12_MergeSorts.f (k + 1) a0 a1) := by
 intro a0 a1 k
 obtain ⟨ih0, ih1, ih2, ih3⟩ := moultlaw12_MergeSorts.mono_l k
 unfold moultlaw12_MergeSorts.f
 repeat' first
   | (with_reducible exact ih0 _ _ _ _)
   | (with_reducible exact ih1 _ _ _)
   | (with_reducible exact ih2 _ _ _)
   | (with_reducible exact ih3 _ _ _ _)
   | (with_reducible exact merge_Merge.mono _ _)
   | (with_reducible exact merge_Sorted.mono _ _)
   | (with_reducible exact moultlaw12_has.mono _ _ _ _ _ _)
   | (with_reducible exact moultlaw12_known.mono _ _ _ _ _ _)
   | (with_reducible exact moultlaw12_rows.mono _ _)
   | (with_reducible exact moultlaw12_shown.mono _)
   | (with_reducible exact moultlaw12_small.mono _ _)
   | (with_reducible exact moultref12_Sorted.mono _ _)
   | (with_reducible exact LeO.refl _)
   | (with_reducible exact LeO.none _)
   | (with_reducible refine LeO.ite ?_ ?_)
   | (with_reducible refine LeO.bind ?_ (fun _ => ?_))
   | exact ih0 _ _ _ _
   | exact ih1 _ _ _
   | exact ih2 _ _ _
   | exact ih3 _ _ _ _
   | exact merge_Merge.mono _ _
   | exact merge_Sorted.mono _ _
   | exact moultlaw12_has.mono _ _ _ _ _ _
   | exact moultlaw12_known.mono _ _ _ _ _ _
   | exact moultlaw12_rows.mono _ _
   | exact moultlaw12_shown.mono _
   | exact moultlaw12_small.mono _ _
   | exact moultref12_Sorted.mono _ _
   | exact LeO.none _
   | refine LeO.ite ?_ ?_
   | refine LeO.bind ?_ (fun _ => ?_)
set_option maxHeartbeats 8000000 in
set_option maxRecDepth 100000 in
theorem moultlaw12_MergeSorts.calls (k : Nat) (A0 : Option Addr) (c0 : Nat) (l0 : List (List (S36))) (A1 : Option Addr) (c1 : Nat) (l1 : List (S36)) (r : Bool) (w : World) (hr0 : Kd.C (Kd.slice 36 k36) w A0 l0.length l0) (hc0 : l0.length ≤ c0) (hr1 : Kd.C k36 w A1 l1.length l1) (hc1 : l1.length ≤ c1) (h : moultlaw12_MergeSorts.f k l0 l1 = some r) :
  Calls Try.prog 4 #[.slice A0 l0.length c0, .slice A1 l1.length c1] w fun e w' => e = .returned (.bool r) ∧ Below w.heap.size w w' := by
 have hu36 := Try.underlying36
 have HR0 := Aside0.mk hr0
 have HC0 := Aside0.mk hc0
 clear hr0 hc0
 have HR1 := Aside0.mk hr1
 have HC1 := Aside0.mk hc1
 clear hr1 hc1
 have HB := Aside0.mk (Below.refl w.heap.size w)
 have H : ((moultlaw12_shown.f k).bind fun t466 => ((moultlaw12_rows.f k l0).bind fun bt467 => ((moultlaw12_small.f k l1).bind fun t471 => (if t466 = true then (if bt467.2 = true then (moultlaw12_MergeSorts.j0 k l1 t466 bt467.1 (!t471)) else (moultlaw12_MergeSorts.j0 k l1 t466 bt467.1 true)) else (moultlaw12_MergeSorts.j0 k l1 t466 bt467.1 true))))) = some r := h
 clear h
 replace H := Option.bind_eq_some_iff.mp H
 obtain ⟨t466, A30, H⟩ := H
 replace H : ((moultlaw12_rows.f k l0).bind fun bt467 => ((moultlaw12_small.f k l1).bind fun t471 => (if t466 = true then (if bt467.2 = true then (moultlaw12_MergeSorts.j0 k l1 t466 bt467.1 (!t471)) else (moultlaw12_MergeSorts.j0 k l1 t466 bt467.1 true)) else (moultlaw12_MergeSorts.j0 k l1 t466 bt467.1 true)))) = some r := H
 have A3 := Aside0.mk A30
 clear A30
 replace H := Option.bind_eq_some_iff.mp H
 obtain ⟨⟨t467, t470⟩, A40, H⟩ := H
 replace H : ((moultlaw12_small.f k l1).bind fun t471 => (if t466 = true then (if t470 = true then (moultlaw12_MergeSorts.j0 k l1 t466 t467 (!t471)) else (moultlaw12_MergeSorts.j0 k l1 t466 t467 true)) else (moultlaw12_MergeSorts.j0 k l1 t466 t467 true))) = some r := H
 have A4 := Aside0.mk A40
 clear A40
 replace H := Option.bind_eq_some_iff.mp H
 obtain ⟨t471, A50, H⟩ := H
 replace H : (if t466 = true then (if t470 = true then (moultlaw12_MergeSorts.j0 k l1 t466 t467 (!t471)) else (moultlaw12_MergeSorts.j0 k l1 t466 t467 true)) else (moultlaw12_MergeSorts.j0 k l1 t466 t467 true)) = some r := H
 have A5 := Aside0.mk A50
 clear A50
 have HC6 := Aside0.mk H
 clear H
 go_enter Try.func4, Try.ntmps4
 go_upto_region 4 with (first | ((with_reducible refine gate_callee (f := 9) rfl ?_); refine goesL_ (some 13) rfl rfl Try.func9 (by kernel_rfl) rfl #[] rfl (by (try simp only [List.map_toArray, List.map_cons, List.map_nil]); first | done | rfl | (simp only [List.length_drop, List.length_take]; rfl)) ?_; (with_reducible refine (moultlaw12_shown.calls k  t466 _ A3.out).mono ?_); rintro e w7 ⟨rfl, hb⟩; refine ⟨_, rfl, ?_⟩; have n0_ := Aside0.mk (below_step HB.out hb); clear HB; have HB := n0_; clear n0_; (try clear hb); (try clear hb2); (try clear hk); (try clear hi)) | ((with_reducible refine gate_callee (f := 10) rfl ?_); refine goesL_ (some 16) rfl rfl Try.func10 (by kernel_rfl) rfl #[.slice A0 l0.length c0] rfl (by (try simp only [List.map_toArray, List.map_cons, List.map_nil]); first | done | rfl | (simp only [List.length_drop, List.length_take]; rfl)) ?_; (with_reducible refine (moultlaw12_rows.calls k (fun k_ => k_ < w.heap.size) _ _ l0 t467 t470 _ ?side1 A4.out).mono ?_); (case side1 => exact Kd.V_mk HC0.out (Kd.F_below (Kd.C_F (Kd.heap_slice 36 k36_heap) HR0.out) HB.out)); rintro e w8 ⟨v468, rfl, ho0, hb⟩; refine ⟨_, rfl, ?_⟩; have n0_ := Aside0.mk (Kd.N_lower (Kd.N_mono (ok' := fun k_ => True) ho0 (fun k_ hk_ => trivial)) (below_size HB.out)); have n1_ := Aside0.mk (below_step HB.out hb); clear HB; have HO469 := n0_; have HB := n1_; clear n0_ n1_; (try clear hb); (try clear hb2); (try clear hk); (try clear hi); (try clear ho0)) | ((with_reducible refine gate_callee (f := 18) rfl ?_); refine goesL_ (some 20) rfl rfl Try.func18 (by kernel_rfl) rfl #[.slice A1 l1.length c1] rfl (by (try simp only [List.map_toArray, List.map_cons, List.map_nil]); first | done | rfl | (simp only [List.length_drop, List.length_take]; rfl)) ?_; (with_reducible refine (moultlaw12_small.calls k _ _ l1 t471 _ ?side1 ?side2 A5.out).mono ?_); (case side1 => repeat (first | exact (Kd.C_below HR1.out HB.out) | (with_reducible refine Kd.C_alloc ?_ _) | (with_reducible refine Kd.C_drewN ?_ _) | (with_reducible refine Kd.C_drew ?_))); (case side2 => exact HC1.out); rintro e w' ⟨rfl, ⟨nd, rfl⟩⟩; refine ⟨_, rfl, ?_⟩))
 (try simp only [Act.put, List.setIfInBounds_toArray, List.set_cons_zero, List.set_cons_succ])
 go_cut [30] (fun v30 wc => ∃ (kq : Nat) (x30_5 : Bool), v30 = .bool x30_5 ∧ Aside0 (moultlaw12_MergeSorts.j0 kq l1 t466 t467 x30_5 = some r) ∧ Aside0 (kq ≤ k) ∧ Aside0 (Kd.N (Kd.slice 36 k36) 27 wc w.heap.size (fun _ => True) v468 t467) ∧ Aside0 (Below w.heap.size w wc))
 case first =>
  have H := HC6.out
  clear HC6
  by_cases c9 : t466 = true
  ·subst c9
   have H1 : (if t470 = true then (moultlaw12_MergeSorts.j0 k l1 true t467 (!t471)) else (moultlaw12_MergeSorts.j0 k l1 true t467 true)) = some r := by rw [if_pos rfl] at H; exact H
   clear H
   have H := H1
   clear H1
   by_cases c10 : t470 = true
   ·subst c10
    have H1 : (moultlaw12_MergeSorts.j0 k l1 true t467 (!t471)) = some r := by rw [if_pos rfl] at H; exact H
    clear H
    have H := H1
    clear H1
    have H' := Aside0.mk H
    clear H
    go_wp2
    go_meet
    case rel => exact ⟨_, (!t471), (by first | rfl | (simp; done) | (simp [*]; done)), H', ⟨by first | omega | exact Nat.le_refl _⟩, ⟨by (with_reducible repeat (first | apply Kd.N_alloc | apply Kd.N_drewN | apply Kd.N_drew)); exact HO469.out⟩, ⟨by repeat (first | (with_reducible first | exact HB.out | apply below_alloc | apply pw_below_drewN | apply below_drew1) | exact HB.out)⟩⟩
   ·replace c10 := Bool.eq_false_iff.mpr c10
    subst c10
    have H1 : (moultlaw12_MergeSorts.j0 k l1 true t467 true) = some r := by rw [if_neg (show ¬ (false = true) by decide)] at H; exact H
    clear H
    have H := H1
    clear H1
    have H' := Aside0.mk H
    clear H
    go_wp2
    go_meet
    case rel => exact ⟨_, (true), (by first | rfl | (simp; done) | (simp [*]; done)), H', ⟨by first | omega | exact Nat.le_refl _⟩, ⟨by (with_reducible repeat (first | apply Kd.N_alloc | apply Kd.N_drewN | apply Kd.N_drew)); exact HO469.out⟩, ⟨by repeat (first | (with_reducible first | exact HB.out | apply below_alloc | apply pw_below_drewN | apply below_drew1) | exact HB.out)⟩⟩
  ·replace c9 := Bool.eq_false_iff.mpr c9
   subst c9
   have H1 : (moultlaw12_MergeSorts.j0 k l1 false t467 true) = some r := by rw [if_neg (show ¬ (false = true) by decide)] at H; exact H
   clear H
   have H := H1
   clear H1
   have H' := Aside0.mk H
   clear H
   go_wp2
   go_meet
   case rel => exact ⟨_, (true), (by first | rfl | (simp; done) | (simp [*]; done)), H', ⟨by first | omega | exact Nat.le_refl _⟩, ⟨by (with_reducible repeat (first | apply Kd.N_alloc | apply Kd.N_drewN | apply Kd.N_drew)); exact HO469.out⟩, ⟨by repeat (first | (with_reducible first | exact HB.out | apply below_alloc | apply pw_below_drewN | apply below_drew1) | exact HB.out)⟩⟩
 case rest =>
  clear HC6
  try clear c1
  try clear p2
  try clear c4
  try clear c9
  try clear c10
  obtain ⟨kq, x30_5, rfl, HA, HJ5, HO_6, HB⟩ := hcut
  cases kq with
  | zero => exact absurd HA.out (by simp [moultlaw12_MergeSorts.j0])
  | succ kj5 =>
   have H := HA.out
   clear HA
   simp only [moultlaw12_MergeSorts.j0] at H
   by_cases c11 : x30_5 = true
   ·subst c11
    have H1 : (some t466) = some r := by rw [if_pos rfl] at H; exact H
    clear H
    have H := H1
    clear H1
    obtain rfl := Option.some.inj H
    go_wp2
    go_ret
    exact ⟨by first | rfl | (simp [errW_none, errW_some] <;> rfl) | (simp [*, errW_none, errW_some] <;> rfl), by repeat (first | (with_reducible first | exact HB.out | apply below_alloc | apply pw_below_drewN | apply below_drew1) | exact HB.out)⟩
   ·replace c11 := Bool.eq_false_iff.mpr c11
    subst c11
    have H1 : ((merge_Sorted.f kj5 l1).bind fun t472 => ((moultref12_Sorted.f kj5 l1).bind fun t473 => (if (t472 != t473) = true then (some false) else ((merge_Merge.f kj5 t467).bind fun t474 => ((merge_Sorted.f kj5 t474).bind fun t477 => (if t477 = true then (moultlaw12_MergeSorts.l0 kj5 t467 t474 0) else (some false))))))) = some r := by rw [if_neg (show ¬ (false = true) by decide)] at H; exact H
    clear H
    have H := H1
    clear H1
    replace H := Option.bind_eq_some_iff.mp H
    obtain ⟨t472, A120, H⟩ := H
    replace H : ((moultref12_Sorted.f kj5 l1).bind fun t473 => (if (t472 != t473) = true then (some false) else ((merge_Merge.f kj5 t467).bind fun t474 => ((merge_Sorted.f kj5 t474).bind fun t477 => (if t477 = true then (moultlaw12_MergeSorts.l0 kj5 t467 t474 0) else (some false)))))) = some r := H
    have A12 := Aside0.mk A120
    clear A120
    replace H := Option.bind_eq_some_iff.mp H
    obtain ⟨t473, A130, H⟩ := H
    replace H : (if (t472 != t473) = true then (some false) else ((merge_Merge.f kj5 t467).bind fun t474 => ((merge_Sorted.f kj5 t474).bind fun t477 => (if t477 = true then (moultlaw12_MergeSorts.l0 kj5 t467 t474 0) else (some false))))) = some r := H
    have A13 := Aside0.mk A130
    clear A130
    by_cases c14 : (t472 != t473) = true
    ·rw [if_pos c14] at H
     have c14b0 : (t472 != t473) = true := c14
     (try (have c14b1 : decide (t472 = t473) = false := by simpa using c14))
     (try (have c14b2 : (t472 == t473) = false := by simpa using c14))
     (try (have c14b3 : ¬ (t472 = t473) := by simpa using c14))
     clear c14
     obtain rfl := Option.some.inj H
     go_wp2_with (first | ((with_reducible refine gate_callee (f := 19) rfl ?_); refine goesL_ (some 33) rfl rfl Try.func19 (by kernel_rfl) rfl #[.slice A1 l1.length c1] rfl (by (try simp only [List.map_toArray, List.map_cons, List.map_nil]); first | done | rfl | (simp only [List.length_drop, List.length_take]; rfl)) ?_; (with_reducible refine (merge_Sorted.calls kj5 _ _ l1 t472 _ ?side1 ?side2 A12.out).mono ?_); (case side1 => repeat (first | exact (Kd.C_below HR1.out HB.out) | (with_reducible refine Kd.C_alloc ?_ _) | (with_reducible refine Kd.C_drewN ?_ _) | (with_reducible refine Kd.C_drew ?_))); (case side2 => exact HC1.out); rintro e w15 ⟨rfl, hb⟩; refine ⟨_, rfl, ?_⟩; have n0_ := Aside0.mk (Kd.N_below HO_6.out hb); have n1_ := Aside0.mk (below_step HB.out hb); clear HO_6; clear HB; have HO_6 := n0_; have HB := n1_; clear n0_ n1_; (try clear hb); (try clear hb2); (try clear hk); (try clear hi)) | ((with_reducible refine gate_callee (f := 20) rfl ?_); refine goesL_ (some 35) rfl rfl Try.func20 (by kernel_rfl) rfl #[.slice A1 l1.length c1] rfl (by (try simp only [List.map_toArray, List.map_cons, List.map_nil]); first | done | rfl | (simp only [List.length_drop, List.length_take]; rfl)) ?_; (with_reducible refine (moultref12_Sorted.calls kj5 _ _ l1 t473 _ ?side1 ?side2 A13.out).mono ?_); (case side1 => repeat (first | exact (Kd.C_below HR1.out HB.out) | (with_reducible refine Kd.C_alloc ?_ _) | (with_reducible refine Kd.C_drewN ?_ _) | (with_reducible refine Kd.C_drew ?_))); (case side2 => exact HC1.out); rintro e w16 ⟨rfl, hb⟩; refine ⟨_, rfl, ?_⟩; have n0_ := Aside0.mk (Kd.N_below HO_6.out hb); have n1_ := Aside0.mk (below_step HB.out hb); clear HO_6; clear HB; have HO_6 := n0_; have HB := n1_; clear n0_ n1_; (try clear hb); (try clear hb2); (try clear hk); (try clear hi)))
     go_ret
     exact ⟨by first | rfl | (simp [errW_none, errW_some] <;> rfl) | (simp [*, errW_none, errW_some] <;> rfl), by repeat (first | (with_reducible first | exact HB.out | apply below_alloc | apply pw_below_drewN | apply below_drew1) | exact HB.out)⟩
    ·rw [if_neg c14] at H
     have c14b0 : (t472 != t473) = false := by simpa using c14
     (try (have c14b1 : decide (t472 = t473) = true := by simpa using c14))
     (try (have c14b2 : (t472 == t473) = true := by simpa using c14))
     clear c14
     replace H := Option.bind_eq_some_iff.mp H
     obtain ⟨t474, A170, H⟩ := H
     replace H : ((merge_Sorted.f kj5 t474).bind fun t477 => (if t477 = true then (moultlaw12_MergeSorts.l0 kj5 t467 t474 0) else (some false))) = some r := H
     have A17 := Aside0.mk A170
     clear A170
     replace H := Option.bind_eq_some_iff.mp H
     obtain ⟨t477, A180, H⟩ := H
     replace H : (if t477 = true then (moultlaw12_MergeSorts.l0 kj5 t467 t474 0) else (some false)) = some r := H
     have A18 := Aside0.mk A180
     clear A180
     by_cases c19 : t477 = true
     ·subst c19
      have H1 : (moultlaw12_MergeSorts.l0 kj5 t467 t474 0) = some r := by rw [if_pos rfl] at H; exact H
      clear H
      have H := H1
      clear H1
      have H' := Aside0.mk H
      clear H
      go_wp2_with (first | ((with_reducible refine gate_callee (f := 19) rfl ?_); refine goesL_ (some 33) rfl rfl Try.func19 (by kernel_rfl) rfl #[.slice A1 l1.length c1] rfl (by (try simp only [List.map_toArray, List.map_cons, List.map_nil]); first | done | rfl | (simp only [List.length_drop, List.length_take]; rfl)) ?_; (with_reducible refine (merge_Sorted.calls kj5 _ _ l1 t472 _ ?side1 ?side2 A12.out).mono ?_); (case side1 => repeat (first | exact (Kd.C_below HR1.out HB.out) | (with_reducible refine Kd.C_alloc ?_ _) | (with_reducible refine Kd.C_drewN ?_ _) | (with_reducible refine Kd.C_drew ?_))); (case side2 => exact HC1.out); rintro e w20 ⟨rfl, hb⟩; refine ⟨_, rfl, ?_⟩; have n0_ := Aside0.mk (Kd.N_below HO_6.out hb); have n1_ := Aside0.mk (below_step HB.out hb); clear HO_6; clear HB; have HO_6 := n0_; have HB := n1_; clear n0_ n1_; (try clear hb); (try clear hb2); (try clear hk); (try clear hi)) | ((with_reducible refine gate_callee (f := 20) rfl ?_); refine goesL_ (some 35) rfl rfl Try.func20 (by kernel_rfl) rfl #[.slice A1 l1.length c1] rfl (by (try simp only [List.map_toArray, List.map_cons, List.map_nil]); first | done | rfl | (simp only [List.length_drop, List.length_take]; rfl)) ?_; (with_reducible refine (moultref12_Sorted.calls kj5 _ _ l1 t473 _ ?side1 ?side2 A13.out).mono ?_); (case side1 => repeat (first | exact (Kd.C_below HR1.out HB.out) | (with_reducible refine Kd.C_alloc ?_ _) | (with_reducible refine Kd.C_drewN ?_ _) | (with_reducible refine Kd.C_drew ?_))); (case side2 => exact HC1.out); rintro e w21 ⟨rfl, hb⟩; refine ⟨_, rfl, ?_⟩; have n0_ := Aside0.mk (Kd.N_below HO_6.out hb); have n1_ := Aside0.mk (below_step HB.out hb); clear HO_6; clear HB; have HO_6 := n0_; have HB := n1_; clear n0_ n1_; (try clear hb); (try clear hb2); (try clear hk); (try clear hi); obtain ⟨Ao22, co22, eo22⟩ := Kd.N_slice HO_6.out; subst eo22) | ((with_reducible refine gate_callee (f := 11) rfl ?_); refine goesL_ (some 38) rfl rfl Try.func11 (by kernel_rfl) rfl #[.slice Ao22 t467.length co22] rfl (by (try simp only [List.map_toArray, List.map_cons, List.map_nil]); first | done | rfl | (simp only [List.length_drop, List.length_take]; rfl)) ?_; (with_reducible refine (merge_Merge.calls kj5 _ _ t467 t474 _ ?side1 ?side2 A17.out).mono ?_); (case side1 => repeat (first | exact (Kd.N_reads' HO_6.out).2.2 | (with_reducible refine Kd.C_alloc ?_ _) | (with_reducible refine Kd.C_drewN ?_ _) | (with_reducible refine Kd.C_drew ?_))); (case side2 => exact (Kd.N_reads' HO_6.out).2.1); rintro e w23 ⟨v475, rfl, ho0, hb⟩; refine ⟨_, rfl, ?_⟩; have n0_ := Aside0.mk (Kd.N_elder' HO_6.out (Kd.R_base ho0) hb); have n1_ := Aside0.mk (Kd.R_lower ho0 (below_size HB.out)); have n2_ := Aside0.mk (below_step HB.out hb); clear HO_6; clear HB; have HO_6 := n0_; have HO476 := n1_; have HB := n2_; clear n0_ n1_ n2_; (try clear hb); (try clear hb2); (try clear hk); (try clear hi); (try clear ho0); obtain ⟨Ao24, co24, eo24⟩ := Kd.R_slice HO476.out; subst eo24) | ((with_reducible refine gate_callee (f := 19) rfl ?_); refine goesL_ (some 40) rfl rfl Try.func19 (by kernel_rfl) rfl #[.slice Ao24 t474.length co24] rfl (by (try simp only [List.map_toArray, List.map_cons, List.map_nil]); first | done | rfl | (simp only [List.length_drop, List.length_take]; rfl)) ?_; (with_reducible refine (merge_Sorted.calls kj5 _ _ t474 true _ ?side1 ?side2 A18.out).mono ?_); (case side1 => repeat (first | exact (Kd.R_reads' HO476.out).2.2 | (with_reducible refine Kd.C_alloc ?_ _) | (with_reducible refine Kd.C_drewN ?_ _) | (with_reducible refine Kd.C_drew ?_))); (case side2 => exact (Kd.R_reads' HO476.out).2.1); rintro e w25 ⟨rfl, hb⟩; refine ⟨_, rfl, ?_⟩; have n0_ := Aside0.mk (Kd.N_below HO_6.out hb); have n1_ := Aside0.mk (Kd.R_below HO476.out hb); have n2_ := Aside0.mk (below_step HB.out hb); clear HO_6; clear HO476; clear HB; have HO_6 := n0_; have HO476 := n1_; have HB := n2_; clear n0_ n1_ n2_; (try clear hb); (try clear hb2); (try clear hk); (try clear hi)))
      go_loopg [10] kj5 (fun kq v10 w' => ∃ (x10_2 : Int), v10 = .int .i64 x10_2 ∧ Aside0 (moultlaw12_MergeSorts.l0 kq t467 t474 x10_2 = some r) ∧ Aside0 (kq ≤ kj5) ∧ Aside0 (Kd.N (Kd.slice 36 k36) 27 w' w.heap.size (fun k_ => some k_ ≠ ((.slice Ao24 t474.length co24) : Value).ownBlock) (.slice Ao22 t467.length co22) t467) ∧ Aside0 (Kd.R k36 36 w' w.heap.size (fun _ => True) (.slice Ao24 t474.length co24) t474) ∧ Aside0 (Below w.heap.size w w'))
      case atStart => exact ⟨(0), (by first | rfl | (simp; done) | (simp [*]; done)), H', ⟨Nat.le_refl _⟩, ⟨by (with_reducible repeat (first | apply Kd.N_alloc | apply Kd.N_drewN | apply Kd.N_drew)); exact Kd.N_mono HO_6.out (fun _ hk => hk.2)⟩, ⟨by (with_reducible repeat (first | apply Kd.R_alloc | apply Kd.R_drewN | apply Kd.R_drew)); exact HO476.out⟩, ⟨by repeat (first | (with_reducible first | exact HB.out | apply below_alloc | apply pw_below_drewN | apply below_drew1) | exact HB.out)⟩⟩
      case round =>
       clear H'
       try clear c1
       try clear c2
       try clear p2
       try clear c4
       try clear c9
       try clear c10
       try clear c11
       try clear c14
       try clear c14b0
       try clear c14b1
       try clear c14b2
       try clear c18
       try clear c19
       try clear c20
       try clear p2
       obtain ⟨x10_2, rfl, HA, HK2, HO_6, HO_9, HB⟩ := hrel
       cases gk with
       | zero => exact absurd HA.out (by simp [moultlaw12_MergeSorts.l0])
       | succ k2 =>
        have H := HA.out
        clear HA
        simp only [moultlaw12_MergeSorts.l0] at H
        by_cases c26 : x10_2 < (t474.length : Int)
        ·rw [if_pos c26] at H
         have c26b0 : decide (x10_2 < (t474.length : Int)) = true := decide_eq_true c26
         clear c26
         by_cases c27 : 0 ≤ x10_2
         ·rw [if_pos c27] at H
          have c27b0 : decide (0 ≤ x10_2) = true := decide_eq_true c27
          clear c27
          replace H := Option.bind_eq_some_iff.mp H
          obtain ⟨t479, A280, H⟩ := H
          replace H : (if t479 = true then (moultlaw12_MergeSorts.l0 k2 t467 t474 (wrap64 (x10_2 + 1))) else (some false)) = some r := H
          have A28 := Aside0.mk A280
          clear A280
          by_cases c29 : t479 = true
          ·subst c29
           have H1 : (moultlaw12_MergeSorts.l0 k2 t467 t474 (wrap64 (x10_2 + 1))) = some r := by rw [if_pos rfl] at H; exact H
           clear H
           have H := H1
           clear H1
           have H' := Aside0.mk H
           clear H
           have p478 : 0 ≤ (x10_2 : Int) := of_decide_eq_true (by first | (with_reducible assumption) | assumption)
           have q478 : x10_2 < (t474.length : Int) := of_decide_eq_true (by first | (with_reducible assumption) | assumption)
           obtain ⟨ad478, e478, hx478_0, hx478_1, hx478_2, hx478_3⟩ := at_T36 (Kd.R_reads' HO_9.out).2.2 x10_2 p478 q478
           cases e478
           replace p478 := eq_true p478
           replace q478 := eq_true q478
           go_wp2_with (first | ((with_reducible refine gate_callee (f := 21) rfl ?_); refine goesL_ (some 53) rfl rfl Try.func21 (by kernel_rfl) rfl #[.slice Ao22 t467.length co22, .agg #[.string ((rd_T36 t474 x10_2).f0), .int .i64 ((rd_T36 t474 x10_2).f1), .bool ((rd_T36 t474 x10_2).f2), .string ((rd_T36 t474 x10_2).f3)]] rfl (by (try simp only [List.map_toArray, List.map_cons, List.map_nil]); first | done | rfl | (simp only [List.length_drop, List.length_take]; rfl)) ?_; (with_reducible refine (moultlaw12_has.calls k2 _ _ t467 ((rd_T36 t474 x10_2).f0) ((rd_T36 t474 x10_2).f1) ((rd_T36 t474 x10_2).f2) ((rd_T36 t474 x10_2).f3) true _ ?side1 ?side2 A28.out).mono ?_); (case side1 => repeat (first | exact (Kd.N_reads' HO_6.out).2.2 | (with_reducible refine Kd.C_alloc ?_ _) | (with_reducible refine Kd.C_drewN ?_ _) | (with_reducible refine Kd.C_drew ?_))); (case side2 => exact (Kd.N_reads' HO_6.out).2.1); rintro e w30 ⟨rfl, hb⟩; refine ⟨_, rfl, ?_⟩; have n0_ := Aside0.mk (Kd.N_below HO_6.out hb); have n1_ := Aside0.mk (Kd.R_below HO_9.out hb); have n2_ := Aside0.mk (below_step HB.out hb); clear HO_6; clear HO_9; clear HB; have HO_6 := n0_; have HO_9 := n1_; have HB := n2_; clear n0_ n1_ n2_; (try clear hb); (try clear hb2); (try clear hk); (try clear hi)))
           go_roundg k2
           case measure => have := HJ5.out; have := HK2.out; omega
           case rel => exact ⟨(wrap64 (x10_2 + 1)), (by first | rfl | (simp; done) | (simp [*]; done)), H', ⟨by have := HJ5.out; have := HK2.out; omega⟩, ⟨by (with_reducible repeat (first | apply Kd.N_alloc | apply Kd.N_drewN | apply Kd.N_drew)); exact HO_6.out⟩, ⟨by (with_reducible repeat (first | apply Kd.R_alloc | apply Kd.R_drewN | apply Kd.R_drew)); exact HO_9.out⟩, ⟨by repeat (first | (with_reducible first | exact HB.out | apply below_alloc | apply pw_below_drewN | apply below_drew1) | exact HB.out)⟩⟩
          ·replace c29 := Bool.eq_false_iff.mpr c29
           subst c29
           have H1 : (some false) = some r := by rw [if_neg (show ¬ (false = true) by decide)] at H; exact H
           clear H
           have H := H1
           clear H1
           obtain rfl := Option.some.inj H
           have p478 : 0 ≤ (x10_2 : Int) := of_decide_eq_true (by first | (with_reducible assumption) | assumption)
           have q478 : x10_2 < (t474.length : Int) := of_decide_eq_true (by first | (with_reducible assumption) | assumption)
           obtain ⟨ad478, e478, hx478_0, hx478_1, hx478_2, hx478_3⟩ := at_T36 (Kd.R_reads' HO_9.out).2.2 x10_2 p478 q478
           cases e478
           replace p478 := eq_true p478
           replace q478 := eq_true q478
           go_wp2_with (first | ((with_reducible refine gate_callee (f := 21) rfl ?_); refine goesL_ (some 53) rfl rfl Try.func21 (by kernel_rfl) rfl #[.slice Ao22 t467.length co22, .agg #[.string ((rd_T36 t474 x10_2).f0), .int .i64 ((rd_T36 t474 x10_2).f1), .bool ((rd_T36 t474 x10_2).f2), .string ((rd_T36 t474 x10_2).f3)]] rfl (by (try simp only [List.map_toArray, List.map_cons, List.map_nil]); first | done | rfl | (simp only [List.length_drop, List.length_take]; rfl)) ?_; (with_reducible refine (moultlaw12_has.calls k2 _ _ t467 ((rd_T36 t474 x10_2).f0) ((rd_T36 t474 x10_2).f1) ((rd_T36 t474 x10_2).f2) ((rd_T36 t474 x10_2).f3) false _ ?side1 ?side2 A28.out).mono ?_); (case side1 => repeat (first | exact (Kd.N_reads' HO_6.out).2.2 | (with_reducible refine Kd.C_alloc ?_ _) | (with_reducible refine Kd.C_drewN ?_ _) | (with_reducible refine Kd.C_drew ?_))); (case side2 => exact (Kd.N_reads' HO_6.out).2.1); rintro e w31 ⟨rfl, hb⟩; refine ⟨_, rfl, ?_⟩; have n0_ := Aside0.mk (Kd.N_below HO_6.out hb); have n1_ := Aside0.mk (Kd.R_below HO_9.out hb); have n2_ := Aside0.mk (below_step HB.out hb); clear HO_6; clear HO_9; clear HB; have HO_6 := n0_; have HO_9 := n1_; have HB := n2_; clear n0_ n1_ n2_; (try clear hb); (try clear hb2); (try clear hk); (try clear hi)))
           go_ret
           exact ⟨by first | rfl | (simp [errW_none, errW_some] <;> rfl) | (simp [*, errW_none, errW_some] <;> rfl), by repeat (first | (with_reducible first | exact HB.out | apply below_alloc | apply pw_below_drewN | apply below_drew1) | exact HB.out)⟩
         ·rw [if_neg c27] at H
          exact absurd H (by simp)
        ·rw [if_neg c26] at H
         have c26b0 : decide (x10_2 < (t474.length : Int)) = false := decide_eq_false c26
         clear c26
         have H' := Aside0.mk H
         clear H
         go_wp2
         go_loopg [11] k2 (fun kq v11 w' => ∃ (x11_3 : Int), v11 = .int .i64 x11_3 ∧ Aside0 (moultlaw12_MergeSorts.l1 kq t467 t474 x11_3 = some r) ∧ Aside0 (kq ≤ k2) ∧ Aside0 (Kd.N (Kd.slice 36 k36) 27 w' w.heap.size (fun k_ => some k_ ≠ ((.slice Ao24 t474.length co24) : Value).ownBlock) (.slice Ao22 t467.length co22) t467) ∧ Aside0 (Kd.R k36 36 w' w.heap.size (fun _ => True) (.slice Ao24 t474.length co24) t474) ∧ Aside0 (Below w.heap.size w w'))
         case atStart => exact ⟨(0), (by first | rfl | (simp; done) | (simp [*]; done)), H', ⟨Nat.le_refl _⟩, ⟨by (with_reducible repeat (first | apply Kd.N_alloc | apply Kd.N_drewN | apply Kd.N_drew)); exact HO_6.out⟩, ⟨by (with_reducible repeat (first | apply Kd.R_alloc | apply Kd.R_drewN | apply Kd.R_drew)); exact HO_9.out⟩, ⟨by repeat (first | (with_reducible first | exact HB.out | apply below_alloc | apply pw_below_drewN | apply below_drew1) | exact HB.out)⟩⟩
         case round =>
          clear H'
          try clear c1
          try clear c2
          try clear p2
          try clear c4
          try clear p4
          try clear q4
          try clear hx4
          try clear p6
          try clear c9
          try clear c10
          try clear c11
          try clear c14
          try clear c14b0
          try clear c14b1
          try clear c14b2
          try clear c18
          try clear c19
          try clear c20
          try clear c21
          try clear c26
          try clear c26b0
          try clear c27
          try clear c27b0
          try clear c29
          try clear hx478_0
          try clear hx478_1
          try clear hx478_2
          try clear hx478_3
          try clear p2
          try clear p478
          try clear q478
          obtain ⟨x11_3, rfl, HA, HK3, HO_6, HO_9, HB⟩ := hrel
          cases gk with
          | zero => exact absurd HA.out (by simp [moultlaw12_MergeSorts.l1])
          | succ k3 =>
           have H := HA.out
           clear HA
           simp only [moultlaw12_MergeSorts.l1] at H
           by_cases c32 : x11_3 < (t467.length : Int)
           ·rw [if_pos c32] at H
            have c32b0 : decide (x11_3 < (t467.length : Int)) = true := decide_eq_true c32
            clear c32
            have H' := Aside0.mk H
            clear H
            go_wp2
            go_loopg [12] k3 (fun kq v12 w' => ∃ (x12_4 : Int), v12 = .int .i64 x12_4 ∧ Aside0 (moultlaw12_MergeSorts.l2 kq t467 t474 x11_3 x12_4 = some r) ∧ Aside0 (kq ≤ k3) ∧ Aside0 (Kd.N (Kd.slice 36 k36) 27 w' w.heap.size (fun k_ => some k_ ≠ ((.slice Ao24 t474.length co24) : Value).ownBlock) (.slice Ao22 t467.length co22) t467) ∧ Aside0 (Kd.R k36 36 w' w.heap.size (fun _ => True) (.slice Ao24 t474.length co24) t474) ∧ Aside0 (Below w.heap.size w w'))
            case atStart => exact ⟨(0), (by first | rfl | (simp; done) | (simp [*]; done)), H', ⟨Nat.le_refl _⟩, ⟨by (with_reducible repeat (first | apply Kd.N_alloc | apply Kd.N_drewN | apply Kd.N_drew)); exact HO_6.out⟩, ⟨by (with_reducible repeat (first | apply Kd.R_alloc | apply Kd.R_drewN | apply Kd.R_drew)); exact HO_9.out⟩, ⟨by repeat (first | (with_reducible first | exact HB.out | apply below_alloc | apply pw_below_drewN | apply below_drew1) | exact HB.out)⟩⟩
            case round =>
             clear H'
             try clear c1
             try clear c2
             try clear p2
             try clear c3
             try clear c4
             try clear p4
             try clear q4
             try clear hx4
             try clear p6
             try clear c9
             try clear c10
             try clear c11
             try clear c14
             try clear c14b0
             try clear c14b1
             try clear c14b2
             try clear c18
             try clear c19
             try clear c20
             try clear c21
             try clear c26
             try clear c26b0
             try clear c27
             try clear c27b0
             try clear c29
             try clear c32
             try clear c32b0
             try clear hx478_0
             try clear hx478_1
             try clear hx478_2
             try clear hx478_3
             try clear p2
             try clear p4
             try clear p478
             try clear p6
             try clear q4
             try clear q478
             obtain ⟨x12_4, rfl, HA, HK4, HO_6, HO_9, HB⟩ := hrel
             cases gk with
             | zero => exact absurd HA.out (by simp [moultlaw12_MergeSorts.l2])
             | succ k4 =>
              have H := HA.out
              clear HA
              simp only [moultlaw12_MergeSorts.l2] at H
              by_cases c33 : 0 ≤ x11_3
              ·rw [if_pos c33] at H
               have c33b0 : decide (0 ≤ x11_3) = true := decide_eq_true c33
               clear c33
               by_cases c34 : x11_3 < (t467.length : Int)
               ·rw [if_pos c34] at H
                have c34b0 : decide (x11_3 < (t467.length : Int)) = true := decide_eq_true c34
                clear c34
                by_cases c35 : x12_4 < ((rd_L4 t467 x11_3).length : Int)
                ·rw [if_pos c35] at H
                 have c35b0 : decide (x12_4 < ((rd_L4 t467 x11_3).length : Int)) = true := decide_eq_true c35
                 clear c35
                 by_cases c36 : 0 ≤ x12_4
                 ·rw [if_pos c36] at H
                  have c36b0 : decide (0 ≤ x12_4) = true := decide_eq_true c36
                  clear c36
                  replace H := Option.bind_eq_some_iff.mp H
                  obtain ⟨t483, A370, H⟩ := H
                  replace H : (if t483 = true then (moultlaw12_MergeSorts.l2 k4 t467 t474 x11_3 (wrap64 (x12_4 + 1))) else (some false)) = some r := H
                  have A37 := Aside0.mk A370
                  clear A370
                  by_cases c38 : t483 = true
                  ·subst c38
                   have H1 : (moultlaw12_MergeSorts.l2 k4 t467 t474 x11_3 (wrap64 (x12_4 + 1))) = some r := by rw [if_pos rfl] at H; exact H
                   clear H
                   have H := H1
                   clear H1
                   have H' := Aside0.mk H
                   clear H
                   have p480 : 0 ≤ (x11_3 : Int) := of_decide_eq_true (by first | (with_reducible assumption) | assumption)
                   have q480 : x11_3 < (t467.length : Int) := of_decide_eq_true (by first | (with_reducible assumption) | assumption)
                   obtain ⟨ad480, A480_0, c480_0, e480, hx480_0, hl480_0, hi480_0⟩ := at_L4 (Kd.N_reads' HO_6.out).2.2 x11_3 p480 q480
                   cases e480
                   obtain ⟨ce480, hce480, hMe480, hcc480⟩ := Kd.N_get HO_6.out [] x11_3 p480 (by first | exact q480 | exact of_decide_eq_true (by first | (with_reducible assumption) | assumption) | (have e_ := (Kd.N_reads' HO_6.out).1; omega))
                   obtain ⟨ua480_0, uc480_0, rfl, ul480_0, ge480_0⟩ := Kd.FK_slice_open hMe480
                   have hv480_0 := hcc480 0 _ rfl
                   rw [Nat.add_zero, show ((Kd.slice 36 k36)).sz = 1 from rfl, Nat.mul_one] at hv480_0
                   replace hv480_0 := Option.some.inj (hv480_0.symm.trans hx480_0)
                   injection hv480_0 with hva_ hvn_ hvc_
                   rw [hva_] at ge480_0
                   rw [hvc_] at ul480_0
                   have HL480_0 := Aside0.mk (show Kd.V k36 36 _ w.heap.size _ _ (rd_L4 t467 x11_3) from Kd.V_mk ul480_0 ge480_0)
                   clear hva_ hvn_ hvc_ ge480_0 ul480_0
                   clear hcc480 hce480
                   have HR480_0 := Aside0.mk hi480_0
                   have HC480_0 := Aside0.mk hl480_0
                   clear hi480_0 hl480_0
                   replace p480 := eq_true p480
                   replace q480 := eq_true q480
                   have p481 : 0 ≤ (x11_3 : Int) := of_decide_eq_true (by first | (with_reducible assumption) | assumption)
                   have q481 : x11_3 < (t467.length : Int) := of_decide_eq_true (by first | (with_reducible assumption) | assumption)
                   obtain ⟨ad481, A481_0, c481_0, e481, hx481_0, hl481_0, hi481_0⟩ := at_L4 (Kd.N_reads' HO_6.out).2.2 x11_3 p481 q481
                   obtain rfl : ad480 = ad481 := (by injection e481)
                   obtain ⟨ce481, hce481, hMe481, hcc481⟩ := Kd.N_get HO_6.out [] x11_3 p481 (by first | exact q481 | exact of_decide_eq_true (by first | (with_reducible assumption) | assumption) | (have e_ := (Kd.N_reads' HO_6.out).1; omega))
                   obtain ⟨ua481_0, uc481_0, rfl, ul481_0, ge481_0⟩ := Kd.FK_slice_open hMe481
                   have hv481_0 := hcc481 0 _ rfl
                   rw [Nat.add_zero, show ((Kd.slice 36 k36)).sz = 1 from rfl, Nat.mul_one] at hv481_0
                   replace hv481_0 := Option.some.inj (hv481_0.symm.trans hx481_0)
                   injection hv481_0 with hva_ hvn_ hvc_
                   rw [hva_] at ge481_0
                   rw [hvc_] at ul481_0
                   have HL481_0 := Aside0.mk (show Kd.V k36 36 _ w.heap.size _ _ (rd_L4 t467 x11_3) from Kd.V_mk ul481_0 ge481_0)
                   clear hva_ hvn_ hvc_ ge481_0 ul481_0
                   clear hcc481 hce481
                   have HR481_0 := Aside0.mk hi481_0
                   have HC481_0 := Aside0.mk hl481_0
                   clear hi481_0 hl481_0
                   replace p481 := eq_true p481
                   replace q481 := eq_true q481
                   have ea_ := Option.some.inj (hx480_0.symm.trans hx481_0)
                   injection ea_ with ea_ en_ ec_
                   subst ea_
                   subst ec_
                   clear en_
                   have p482 : 0 ≤ (x12_4 : Int) := of_decide_eq_true (by first | (with_reducible assumption) | assumption)
                   have q482 : x12_4 < ((rd_L4 t467 x11_3).length : Int) := of_decide_eq_true (by first | (with_reducible assumption) | assumption)
                   obtain ⟨ad482, e482, hx482_0, hx482_1, hx482_2, hx482_3⟩ := at_T36 HR481_0.out x12_4 p482 q482
                   cases e482
                   replace p482 := eq_true p482
                   replace q482 := eq_true q482
                   go_wp2_with (first | ((with_reducible refine gate_callee (f := 22) rfl ?_); refine goesL_ (some 78) rfl rfl Try.func22 (by kernel_rfl) rfl #[.slice Ao24 t474.length co24, .agg #[.string ((rd_T36 (rd_L4 t467 x11_3) x12_4).f0), .int .i64 ((rd_T36 (rd_L4 t467 x11_3) x12_4).f1), .bool ((rd_T36 (rd_L4 t467 x11_3) x12_4).f2), .string ((rd_T36 (rd_L4 t467 x11_3) x12_4).f3)]] rfl (by (try simp only [List.map_toArray, List.map_cons, List.map_nil]); first | done | rfl | (simp only [List.length_drop, List.length_take]; rfl)) ?_; (with_reducible refine (moultlaw12_known.calls k4 _ _ t474 ((rd_T36 (rd_L4 t467 x11_3) x12_4).f0) ((rd_T36 (rd_L4 t467 x11_3) x12_4).f1) ((rd_T36 (rd_L4 t467 x11_3) x12_4).f2) ((rd_T36 (rd_L4 t467 x11_3) x12_4).f3) true _ ?side1 ?side2 A37.out).mono ?_); (case side1 => repeat (first | exact (Kd.R_reads' HO_9.out).2.2 | (with_reducible refine Kd.C_alloc ?_ _) | (with_reducible refine Kd.C_drewN ?_ _) | (with_reducible refine Kd.C_drew ?_))); (case side2 => exact (Kd.R_reads' HO_9.out).2.1); rintro e w39 ⟨rfl, hb⟩; refine ⟨_, rfl, ?_⟩; have n0_ := Aside0.mk (Kd.N_below HO_6.out hb); have n1_ := Aside0.mk (Kd.R_below HO_9.out hb); have n2_ := Aside0.mk (Kd.V_below HL480_0.out hb); have n3_ := Aside0.mk (Kd.V_below HL481_0.out hb); have n4_ := Aside0.mk (Kd.C_below HR480_0.out hb); have n5_ := Aside0.mk (Kd.C_below HR481_0.out hb); have n6_ := Aside0.mk (below_step HB.out hb); clear HO_6; clear HO_9; clear HL480_0; clear HL481_0; clear HR480_0; clear HR481_0; clear HB; have HO_6 := n0_; have HO_9 := n1_; have HL480_0 := n2_; have HL481_0 := n3_; have HR480_0 := n4_; have HR481_0 := n5_; have HB := n6_; clear n0_ n1_ n2_ n3_ n4_ n5_ n6_; (try clear hb); (try clear hb2); (try clear hk); (try clear hi)))
                   go_roundg k4
                   case measure => have := HJ5.out; have := HK2.out; have := HK3.out; have := HK4.out; omega
                   case rel => exact ⟨(wrap64 (x12_4 + 1)), (by first | rfl | (simp; done) | (simp [*]; done)), H', ⟨by have := HJ5.out; have := HK2.out; have := HK3.out; have := HK4.out; omega⟩, ⟨by (with_reducible repeat (first | apply Kd.N_alloc | apply Kd.N_drewN | apply Kd.N_drew)); exact HO_6.out⟩, ⟨by (with_reducible repeat (first | apply Kd.R_alloc | apply Kd.R_drewN | apply Kd.R_drew)); exact HO_9.out⟩, ⟨by repeat (first | (with_reducible first | exact HB.out | apply below_alloc | apply pw_below_drewN | apply below_drew1) | exact HB.out)⟩⟩
                  ·replace c38 := Bool.eq_false_iff.mpr c38
                   subst c38
                   have H1 : (some false) = some r := by rw [if_neg (show ¬ (false = true) by decide)] at H; exact H
                   clear H
                   have H := H1
                   clear H1
                   obtain rfl := Option.some.inj H
                   have p480 : 0 ≤ (x11_3 : Int) := of_decide_eq_true (by first | (with_reducible assumption) | assumption)
                   have q480 : x11_3 < (t467.length : Int) := of_decide_eq_true (by first | (with_reducible assumption) | assumption)
                   obtain ⟨ad480, A480_0, c480_0, e480, hx480_0, hl480_0, hi480_0⟩ := at_L4 (Kd.N_reads' HO_6.out).2.2 x11_3 p480 q480
                   cases e480
                   obtain ⟨ce480, hce480, hMe480, hcc480⟩ := Kd.N_get HO_6.out [] x11_3 p480 (by first | exact q480 | exact of_decide_eq_true (by first | (with_reducible assumption) | assumption) | (have e_ := (Kd.N_reads' HO_6.out).1; omega))
                   obtain ⟨ua480_0, uc480_0, rfl, ul480_0, ge480_0⟩ := Kd.FK_slice_open hMe480
                   have hv480_0 := hcc480 0 _ rfl
                   rw [Nat.add_zero, show ((Kd.slice 36 k36)).sz = 1 from rfl, Nat.mul_one] at hv480_0
                   replace hv480_0 := Option.some.inj (hv480_0.symm.trans hx480_0)
                   injection hv480_0 with hva_ hvn_ hvc_
                   rw [hva_] at ge480_0
                   rw [hvc_] at ul480_0
                   have HL480_0 := Aside0.mk (show Kd.V k36 36 _ w.heap.size _ _ (rd_L4 t467 x11_3) from Kd.V_mk ul480_0 ge480_0)
                   clear hva_ hvn_ hvc_ ge480_0 ul480_0
                   clear hcc480 hce480
                   have HR480_0 := Aside0.mk hi480_0
                   have HC480_0 := Aside0.mk hl480_0
                   clear hi480_0 hl480_0
                   replace p480 := eq_true p480
                   replace q480 := eq_true q480
                   have p481 : 0 ≤ (x11_3 : Int) := of_decide_eq_true (by first | (with_reducible assumption) | assumption)
                   have q481 : x11_3 < (t467.length : Int) := of_decide_eq_true (by first | (with_reducible assumption) | assumption)
                   obtain ⟨ad481, A481_0, c481_0, e481, hx481_0, hl481_0, hi481_0⟩ := at_L4 (Kd.N_reads' HO_6.out).2.2 x11_3 p481 q481
                   obtain rfl : ad480 = ad481 := (by injection e481)
                   obtain ⟨ce481, hce481, hMe481, hcc481⟩ := Kd.N_get HO_6.out [] x11_3 p481 (by first | exact q481 | exact of_decide_eq_true (by first | (with_reducible assumption) | assumption) | (have e_ := (Kd.N_reads' HO_6.out).1; omega))
                   obtain ⟨ua481_0, uc481_0, rfl, ul481_0, ge481_0⟩ := Kd.FK_slice_open hMe481
                   have hv481_0 := hcc481 0 _ rfl
                   rw [Nat.add_zero, show ((Kd.slice 36 k36)).sz = 1 from rfl, Nat.mul_one] at hv481_0
                   replace hv481_0 := Option.some.inj (hv481_0.symm.trans hx481_0)
                   injection hv481_0 with hva_ hvn_ hvc_
                   rw [hva_] at ge481_0
                   rw [hvc_] at ul481_0
                   have HL481_0 := Aside0.mk (show Kd.V k36 36 _ w.heap.size _ _ (rd_L4 t467 x11_3) from Kd.V_mk ul481_0 ge481_0)
                   clear hva_ hvn_ hvc_ ge481_0 ul481_0
                   clear hcc481 hce481
                   have HR481_0 := Aside0.mk hi481_0
                   have HC481_0 := Aside0.mk hl481_0
                   clear hi481_0 hl481_0
                   replace p481 := eq_true p481
                   replace q481 := eq_true q481
                   have ea_ := Option.some.inj (hx480_0.symm.trans hx481_0)
                   injection ea_ with ea_ en_ ec_
                   subst ea_
                   subst ec_
                   clear en_
                   have p482 : 0 ≤ (x12_4 : Int) := of_decide_eq_true (by first | (with_reducible assumption) | assumption)
                   have q482 : x12_4 < ((rd_L4 t467 x11_3).length : Int) := of_decide_eq_true (by first | (with_reducible assumption) | assumption)
                   obtain ⟨ad482, e482, hx482_0, hx482_1, hx482_2, hx482_3⟩ := at_T36 HR481_0.out x12_4 p482 q482
                   cases e482
                   replace p482 := eq_true p482
                   replace q482 := eq_true q482
                   go_wp2_with (first | ((with_reducible refine gate_callee (f := 22) rfl ?_); refine goesL_ (some 78) rfl rfl Try.func22 (by kernel_rfl) rfl #[.slice Ao24 t474.length co24, .agg #[.string ((rd_T36 (rd_L4 t467 x11_3) x12_4).f0), .int .i64 ((rd_T36 (rd_L4 t467 x11_3) x12_4).f1), .bool ((rd_T36 (rd_L4 t467 x11_3) x12_4).f2), .string ((rd_T36 (rd_L4 t467 x11_3) x12_4).f3)]] rfl (by (try simp only [List.map_toArray, List.map_cons, List.map_nil]); first | done | rfl | (simp only [List.length_drop, List.length_take]; rfl)) ?_; (with_reducible refine (moultlaw12_known.calls k4 _ _ t474 ((rd_T36 (rd_L4 t467 x11_3) x12_4).f0) ((rd_T36 (rd_L4 t467 x11_3) x12_4).f1) ((rd_T36 (rd_L4 t467 x11_3) x12_4).f2) ((rd_T36 (rd_L4 t467 x11_3) x12_4).f3) false _ ?side1 ?side2 A37.out).mono ?_); (case side1 => repeat (first | exact (Kd.R_reads' HO_9.out).2.2 | (with_reducible refine Kd.C_alloc ?_ _) | (with_reducible refine Kd.C_drewN ?_ _) | (with_reducible refine Kd.C_drew ?_))); (case side2 => exact (Kd.R_reads' HO_9.out).2.1); rintro e w40 ⟨rfl, hb⟩; refine ⟨_, rfl, ?_⟩; have n0_ := Aside0.mk (Kd.N_below HO_6.out hb); have n1_ := Aside0.mk (Kd.R_below HO_9.out hb); have n2_ := Aside0.mk (Kd.V_below HL480_0.out hb); have n3_ := Aside0.mk (Kd.V_below HL481_0.out hb); have n4_ := Aside0.mk (Kd.C_below HR480_0.out hb); have n5_ := Aside0.mk (Kd.C_below HR481_0.out hb); have n6_ := Aside0.mk (below_step HB.out hb); clear HO_6; clear HO_9; clear HL480_0; clear HL481_0; clear HR480_0; clear HR481_0; clear HB; have HO_6 := n0_; have HO_9 := n1_; have HL480_0 := n2_; have HL481_0 := n3_; have HR480_0 := n4_; have HR481_0 := n5_; have HB := n6_; clear n0_ n1_ n2_ n3_ n4_ n5_ n6_; (try clear hb); (try clear hb2); (try clear hk); (try clear hi)))
                   go_ret
                   exact ⟨by first | rfl | (simp [errW_none, errW_some] <;> rfl) | (simp [*, errW_none, errW_some] <;> rfl), by repeat (first | (with_reducible first | exact HB.out | apply below_alloc | apply pw_below_drewN | apply below_drew1) | exact HB.out)⟩
                 ·rw [if_neg c36] at H
                  exact absurd H (by simp)
                ·rw [if_neg c35] at H
                 have c35b0 : decide (x12_4 < ((rd_L4 t467 x11_3).length : Int)) = false := decide_eq_false c35
                 clear c35
                 have H' := Aside0.mk H
                 clear H
                 have p480 : 0 ≤ (x11_3 : Int) := of_decide_eq_true (by first | (with_reducible assumption) | assumption)
                 have q480 : x11_3 < (t467.length : Int) := of_decide_eq_true (by first | (with_reducible assumption) | assumption)
                 obtain ⟨ad480, A480_0, c480_0, e480, hx480_0, hl480_0, hi480_0⟩ := at_L4 (Kd.N_reads' HO_6.out).2.2 x11_3 p480 q480
                 cases e480
                 obtain ⟨ce480, hce480, hMe480, hcc480⟩ := Kd.N_get HO_6.out [] x11_3 p480 (by first | exact q480 | exact of_decide_eq_true (by first | (with_reducible assumption) | assumption) | (have e_ := (Kd.N_reads' HO_6.out).1; omega))
                 obtain ⟨ua480_0, uc480_0, rfl, ul480_0, ge480_0⟩ := Kd.FK_slice_open hMe480
                 have hv480_0 := hcc480 0 _ rfl
                 rw [Nat.add_zero, show ((Kd.slice 36 k36)).sz = 1 from rfl, Nat.mul_one] at hv480_0
                 replace hv480_0 := Option.some.inj (hv480_0.symm.trans hx480_0)
                 injection hv480_0 with hva_ hvn_ hvc_
                 rw [hva_] at ge480_0
                 rw [hvc_] at ul480_0
                 have HL480_0 := Aside0.mk (show Kd.V k36 36 _ w.heap.size _ _ (rd_L4 t467 x11_3) from Kd.V_mk ul480_0 ge480_0)
                 clear hva_ hvn_ hvc_ ge480_0 ul480_0
                 clear hcc480 hce480
                 have HR480_0 := Aside0.mk hi480_0
                 have HC480_0 := Aside0.mk hl480_0
                 clear hi480_0 hl480_0
                 replace p480 := eq_true p480
                 replace q480 := eq_true q480
                 go_wp2
                 go_roundg k4
                 case measure => have := HJ5.out; have := HK2.out; have := HK3.out; have := HK4.out; omega
                 case rel => exact ⟨(wrap64 (x11_3 + 1)), (by first | rfl | (simp; done) | (simp [*]; done)), H', ⟨by have := HJ5.out; have := HK2.out; have := HK3.out; have := HK4.out; omega⟩, ⟨by (with_reducible repeat (first | apply Kd.N_alloc | apply Kd.N_drewN | apply Kd.N_drew)); exact HO_6.out⟩, ⟨by (with_reducible repeat (first | apply Kd.R_alloc | apply Kd.R_drewN | apply Kd.R_drew)); exact HO_9.out⟩, ⟨by repeat (first | (with_reducible first | exact HB.out | apply below_alloc | apply pw_below_drewN | apply below_drew1) | exact HB.out)⟩⟩
               ·rw [if_neg c34] at H
                exact absurd H (by simp)
              ·rw [if_neg c33] at H
               exact absurd H (by simp)
           ·rw [if_neg c32] at H
            have c32b0 : decide (x11_3 < (t467.length : Int)) = false := decide_eq_false c32
            clear c32
            obtain rfl := Option.some.inj H
            go_wp2
            go_ret
            exact ⟨by first | rfl | (simp [errW_none, errW_some] <;> rfl) | (simp [*, errW_none, errW_some] <;> rfl), by repeat (first | (with_reducible first | exact HB.out | apply below_alloc | apply pw_below_drewN | apply below_drew1) | exact HB.out)⟩
     ·replace c19 := Bool.eq_false_iff.mpr c19
      subst c19
      have H1 : (some false) = some r := by rw [if_neg (show ¬ (false = true) by decide)] at H; exact H
      clear H
      have H := H1
      clear H1
      obtain rfl := Option.some.inj H
      go_wp2_with (first | ((with_reducible refine gate_callee (f := 19) rfl ?_); refine goesL_ (some 33) rfl rfl Try.func19 (by kernel_rfl) rfl #[.slice A1 l1.length c1] rfl (by (try simp only [List.map_toArray, List.map_cons, List.map_nil]); first | done | rfl | (simp only [List.length_drop, List.length_take]; rfl)) ?_; (with_reducible refine (merge_Sorted.calls kj5 _ _ l1 t472 _ ?side1 ?side2 A12.out).mono ?_); (case side1 => repeat (first | exact (Kd.C_below HR1.out HB.out) | (with_reducible refine Kd.C_alloc ?_ _) | (with_reducible refine Kd.C_drewN ?_ _) | (with_reducible refine Kd.C_drew ?_))); (case side2 => exact HC1.out); rintro e w41 ⟨rfl, hb⟩; refine ⟨_, rfl, ?_⟩; have n0_ := Aside0.mk (Kd.N_below HO_6.out hb); have n1_ := Aside0.mk (below_step HB.out hb); clear HO_6; clear HB; have HO_6 := n0_; have HB := n1_; clear n0_ n1_; (try clear hb); (try clear hb2); (try clear hk); (try clear hi)) | ((with_reducible refine gate_callee (f := 20) rfl ?_); refine goesL_ (some 35) rfl rfl Try.func20 (by kernel_rfl) rfl #[.slice A1 l1.length c1] rfl (by (try simp only [List.map_toArray, List.map_cons, List.map_nil]); first | done | rfl | (simp only [List.length_drop, List.length_take]; rfl)) ?_; (with_reducible refine (moultref12_Sorted.calls kj5 _ _ l1 t473 _ ?side1 ?side2 A13.out).mono ?_); (case side1 => repeat (first | exact (Kd.C_below HR1.out HB.out) | (with_reducible refine Kd.C_alloc ?_ _) | (with_reducible refine Kd.C_drewN ?_ _) | (with_reducible refine Kd.C_drew ?_))); (case side2 => exact HC1.out); rintro e w42 ⟨rfl, hb⟩; refine ⟨_, rfl, ?_⟩; have n0_ := Aside0.mk (Kd.N_below HO_6.out hb); have n1_ := Aside0.mk (below_step HB.out hb); clear HO_6; clear HB; have HO_6 := n0_; have HB := n1_; clear n0_ n1_; (try clear hb); (try clear hb2); (try clear hk); (try clear hi); obtain ⟨Ao43, co43, eo43⟩ := Kd.N_slice HO_6.out; subst eo43) | ((with_reducible refine gate_callee (f := 11) rfl ?_); refine goesL_ (some 38) rfl rfl Try.func11 (by kernel_rfl) rfl #[.slice Ao43 t467.length co43] rfl (by (try simp only [List.map_toArray, List.map_cons, List.map_nil]); first | done | rfl | (simp only [List.length_drop, List.length_take]; rfl)) ?_; (with_reducible refine (merge_Merge.calls kj5 _ _ t467 t474 _ ?side1 ?side2 A17.out).mono ?_); (case side1 => repeat (first | exact (Kd.N_reads' HO_6.out).2.2 | (with_reducible refine Kd.C_alloc ?_ _) | (with_reducible refine Kd.C_drewN ?_ _) | (with_reducible refine Kd.C_drew ?_))); (case side2 => exact (Kd.N_reads' HO_6.out).2.1); rintro e w44 ⟨v475, rfl, ho0, hb⟩; refine ⟨_, rfl, ?_⟩; have n0_ := Aside0.mk (Kd.N_elder' HO_6.out (Kd.R_base ho0) hb); have n1_ := Aside0.mk (Kd.R_lower ho0 (below_size HB.out)); have n2_ := Aside0.mk (below_step HB.out hb); clear HO_6; clear HB; have HO_6 := n0_; have HO476 := n1_; have HB := n2_; clear n0_ n1_ n2_; (try clear hb); (try clear hb2); (try clear hk); (try clear hi); (try clear ho0); obtain ⟨Ao45, co45, eo45⟩ := Kd.R_slice HO476.out; subst eo45) | ((with_reducible refine gate_callee (f := 19) rfl ?_); refine goesL_ (some 40) rfl rfl Try.func19 (by kernel_rfl) rfl #[.slice Ao45 t474.length co45] rfl (by (try simp only [List.map_toArray, List.map_cons, List.map_nil]); first | done | rfl | (simp only [List.length_drop, List.length_take]; rfl)) ?_; (with_reducible refine (merge_Sorted.calls kj5 _ _ t474 false _ ?side1 ?side2 A18.out).mono ?_); (case side1 => repeat (first | exact (Kd.R_reads' HO476.out).2.2 | (with_reducible refine Kd.C_alloc ?_ _) | (with_reducible refine Kd.C_drewN ?_ _) | (with_reducible refine Kd.C_drew ?_))); (case side2 => exact (Kd.R_reads' HO476.out).2.1); rintro e w46 ⟨rfl, hb⟩; refine ⟨_, rfl, ?_⟩; have n0_ := Aside0.mk (Kd.N_below HO_6.out hb); have n1_ := Aside0.mk (Kd.R_below HO476.out hb); have n2_ := Aside0.mk (below_step HB.out hb); clear HO_6; clear HO476; clear HB; have HO_6 := n0_; have HO476 := n1_; have HB := n2_; clear n0_ n1_ n2_; (try clear hb); (try clear hb2); (try clear hk); (try clear hi)))
      go_ret
      exact ⟨by first | rfl | (simp [errW_none, errW_some] <;> rfl) | (simp [*, errW_none, errW_some] <;> rfl), by repeat (first | (with_reducible first | exact HB.out | apply below_alloc | apply pw_below_drewN | apply below_drew1) | exact HB.out)⟩

end Go.Proofs.Ythdoanbadhfhjaa.PAll

-- slimmed
