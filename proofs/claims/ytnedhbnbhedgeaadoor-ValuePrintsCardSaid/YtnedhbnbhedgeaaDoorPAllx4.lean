-- Laid by ownprint.py (a program of the session, in wip/tools), out of the translation: Lean checks it.
import Derived.Test.YtnedhbnbhedgeaaDoorPAllx0
import Derived.Test.YtnedhbnbhedgeaaDoorPAllx2
import Derived.Test.YtnedhbnbhedgeaaDoorPAllx3
import Derived.Test.YtnedhbnbhedgeaaDoorGa
namespace Go.Proofs.YtnedhbnbhedgeaaDoor.PAll
open Go.RowKit Go.Proofs.YtnedhbnbhedgeaaDoorW.PrintWords Go.Proofs.YtnedhbnbhedgeaaDoorW.PrintLast Go.Proofs.YtnedhbnbhedgeaaDoorW.PrintMore
attribute [local go_sem] max2_int min2_int max_two min_two max_three min_three max_four min_four   -- for this text's walks alone
set_option linter.unusedVariables false
set_option linter.unusedSimpArgs false

/-! ### moultlaw1_ValueCompares: function 3 -/
def moultlaw1_ValueCompares.j0 : Nat → Bool → Bool → Int → Int → ByteArray → Int → Int → ByteArray → Option (Bool)
 | 0, _, _, _, _, _, _, _, _ => none
 | k + 1, x5, x20, x165000, x165001, x165002, x166000, x166001, x166002 => if x20 = true then (some x5) else ((value_Compare.f k x165000 x165001 x165002 x166000 x166001 x166002).bind fun t167 => ((moultref1_Compare.f k x165000 x165001 x165002 x166000 x166001 x166002).bind fun t168 => (some (t167 == t168))))
def moultlaw1_ValueCompares.f (k : Nat) (a0_0 : Int) (a0_1 : Int) (a0_2 : ByteArray) (a1_0 : Int) (a1_1 : Int) (a1_2 : ByteArray) : Option (Bool) := (moultlaw1_shown.f k).bind fun t166 => (if t166 = true then (if (a0_2.size : Int) > 3000 then (moultlaw1_ValueCompares.j0 k t166 true a0_0 a0_1 a0_2 a1_0 a1_1 a1_2) else (moultlaw1_ValueCompares.j0 k t166 (decide ((a1_2.size : Int) > 3000)) a0_0 a0_1 a0_2 a1_0 a1_1 a1_2)) else (moultlaw1_ValueCompares.j0 k t166 true a0_0 a0_1 a0_2 a1_0 a1_1 a1_2))
theorem moultlaw1_ValueCompares.mono_l : ∀ k, (∀ y0 y1 y2 y3 y4 y5 y6 y7, LeO (moultlaw1_ValueCompares.j0 k y0 y1 y2 y3 y4 y5 y6 y7) (moultlaw1_ValueCompares.j0 (k + 1) y0 y1 y2 y3 y4 y5 y6 y7))
 | 0 => fun _ _ _ _ _ _ _ _ r h => by simp [moultlaw1_ValueCompares.j0] at h
 | k + 1 => by
  have ih0 := moultlaw1_ValueCompares.mono_l k
  ·intro y0 y1 y2 y3 y4 y5 y6 y7
   unfold moultlaw1_ValueCompares.j0
   repeat' first
   | (with_reducible exact ih0 _ _ _ _ _ _ _ _)
   | (with_reducible exact moultlaw1_shown.mono _)
   | (with_reducible exact moultref1_Compare.mono _ _ _ _ _ _ _)
   | (with_reducible exact value_Compare.mono _ _ _ _ _ _ _)
   | (with_reducible exact LeO.refl _)
   | (with_reducible exact LeO.none _)
   | (with_reducible refine LeO.ite ?_ ?_)
   | (with_reducible refine LeO.bind ?_ (fun _ => ?_))
   | exact ih0 _ _ _ _ _ _ _ _
   | exact moultlaw1_shown.mono _
   | exact moultref1_Compare.mono _ _ _ _ _ _ _
   | exact value_Compare.mono _ _ _ _ _ _ _
   | exact LeO.none _
   | refine LeO.ite ?_ ?_
   | refine LeO.bind ?_ (fun _ => ?_)
theorem moultlaw1_ValueCompares.mono : ∀ a0 a1 a2 a3 a4 a5 k, LeO (moultlaw1_ValueCompares.f k a0 a1 a2 a3 a4 a5) (moultlaw1_ValueCompares.f (k + 1) a0 a1 a2 a3 a4 a5) := by
 intro a0 a1 a2 a3 a4 a5 k
 have ih0 := moultlaw1_ValueCompares.mono_l k
 unfold moultlaw1_ValueCompares.f
 repeat' first
   | (with_reducible exact ih0 _ _ _ _ _ _ _ _)
   | (with_reducible exact moultlaw1_shown.mono _)
   | (with_reducible exact moultref1_Compare.mono _ _ _ _ _ _ _)
   | (with_reducible exact value_Compare.mono _ _ _ _ _ _ _)
   | (with_reducible exact LeO.refl _)
   | (with_reducible exact LeO.none _)
   | (with_reducible refine LeO.ite ?_ ?_)
   | (with_reducible refine LeO.bind ?_ (fun _ => ?_))
   | exact ih0 _ _ _ _ _ _ _ _
   | exact moultlaw1_shown.mono _
   | exact moultref1_Compare.mono _ _ _ _ _ _ _
   | exact value_Compare.mono _ _ _ _ _ _ _
   | exact LeO.none _
   | refine LeO.ite ?_ ?_
   | refine LeO.bind ?_ (fun _ => ?_)
def moultlaw1_ValueCompares.T4 : Bool × List (List Nat × List Nat) := (true, [([], []), ([], []), ([0, 1], [0, 1]), ([], []), ([], []), ([3, 4, 2], [3, 4]), ([2, 5], [2, 5]), ([6, 5, 0, 1, 2, 3, 4, 5, 6], [6])])
def moultlaw1_ValueCompares.B4 : List Nat := [0, 0, 3, 0, 0, 31, 63, 127]
theorem moultlaw1_ValueCompares.tab4 : rtab .any (opsOf Tryd.f3 4) = moultlaw1_ValueCompares.T4 := by kernel_rfl
theorem moultlaw1_ValueCompares.bits4 : waitsOk moultlaw1_ValueCompares.T4.2 moultlaw1_ValueCompares.B4 = true := by kernel_rfl
set_option maxHeartbeats 8000000 in
set_option maxRecDepth 100000 in
theorem moultlaw1_ValueCompares.calls (k : Nat) (a0_0 : Int) (a0_1 : Int) (a0_2 : ByteArray) (a1_0 : Int) (a1_1 : Int) (a1_2 : ByteArray) (r : Bool) (w : World) (h : moultlaw1_ValueCompares.f k a0_0 a0_1 a0_2 a1_0 a1_1 a1_2 = some r) (hG : Laid w) :
  Calls Tryd.prog 3 #[.agg #[.int .i64 a0_0, .int .i64 a0_1, .string a0_2], .agg #[.int .i64 a1_0, .int .i64 a1_1, .string a1_2]] w fun e w' => e = .returned (.bool r) ∧ Below w.heap.size w w' := by
 have hu23 := Tryd.underlying23
 have HG := Aside0.mk hG
 clear hG
 have HB := Aside0.mk (Below.refl w.heap.size w)
 have H : ((moultlaw1_shown.f k).bind fun t166 => (if t166 = true then (if (a0_2.size : Int) > 3000 then (moultlaw1_ValueCompares.j0 k t166 true a0_0 a0_1 a0_2 a1_0 a1_1 a1_2) else (moultlaw1_ValueCompares.j0 k t166 (decide ((a1_2.size : Int) > 3000)) a0_0 a0_1 a0_2 a1_0 a1_1 a1_2)) else (moultlaw1_ValueCompares.j0 k t166 true a0_0 a0_1 a0_2 a1_0 a1_1 a1_2))) = some r := h
 clear h
 replace H := Option.bind_eq_some_iff.mp H
 obtain ⟨t166, A30, H⟩ := H
 replace H : (if t166 = true then (if (a0_2.size : Int) > 3000 then (moultlaw1_ValueCompares.j0 k t166 true a0_0 a0_1 a0_2 a1_0 a1_1 a1_2) else (moultlaw1_ValueCompares.j0 k t166 (decide ((a1_2.size : Int) > 3000)) a0_0 a0_1 a0_2 a1_0 a1_1 a1_2)) else (moultlaw1_ValueCompares.j0 k t166 true a0_0 a0_1 a0_2 a1_0 a1_1 a1_2)) = some r := H
 have A3 := Aside0.mk A30
 clear A30
 have HC4 := Aside0.mk H
 clear H
 go_enter Tryd.func3, Tryd.ntmps3
 go_upto_region 2 with (first | ((with_reducible refine gate_dst (N := 2) rfl ?_); (try (refine gate_guard (by rfl) ?_; dsimp only)); refine box_event ?hg (N := 2) ?hd (cs := #[.int .i64 a0_0, .int .i64 a0_1, .string a0_2]) (t := 23) ?hr ?_; (case hd => rfl); (case hg => rfl); (case hr => first | (go_simp; done) | (go_simp; rfl)); intro gb164 hg w5 hbox hb; have n0_ := Aside0.mk (below_step (by repeat (first | (with_reducible first | exact HB.out | apply below_alloc | apply pw_below_drewN | apply below_drew1) | exact HB.out)) hb); have n1_ := Aside0.mk (hbox); have n2_ := Aside0.mk ((by rw [hg]; exact (below_size (by repeat (first | (with_reducible first | exact HB.out | apply below_alloc | apply pw_below_drewN | apply below_drew1) | exact HB.out))) : w.heap.size ≤ gb164)); have n3_ := Aside0.mk ((by rw [hg]; exact (below_size (by repeat (first | (with_reducible first | exact HB.out | apply below_alloc | apply pw_below_drewN | apply below_drew1) | exact HB.out))) : w.heap.size ≤ gb164)); clear HB; have HB := n0_; have BK164 := n1_; have GW164 := n2_; have GE164 := n3_; clear n0_ n1_ n2_ n3_; clear hb hbox hg) | ((with_reducible refine gate_dst (N := 3) rfl ?_); (try (refine gate_guard (by rfl) ?_; dsimp only)); refine box_event ?hg (N := 3) ?hd (cs := #[.int .i64 a1_0, .int .i64 a1_1, .string a1_2]) (t := 23) ?hr ?_; (case hd => rfl); (case hg => rfl); (case hr => first | (go_simp; done) | (go_simp; rfl)); intro gb165 hg w6 hbox hb; have n0_ := Aside0.mk (blk_below (g := gb164) (o := .cells #[.int .i64 a0_0, .int .i64 a0_1, .string a0_2] 23 (0, 0)) (by (with_reducible repeat (first | refine blk_drewN ?_ _ | refine blk_drew ?_ | refine blk_alloc ?_ _)); exact BK164.out) hb); have n1_ := Aside0.mk (below_step (by repeat (first | (with_reducible first | exact HB.out | apply below_alloc | apply pw_below_drewN | apply below_drew1 | refine below_set ?_ GE164.out) | exact HB.out)) hb); have n2_ := Aside0.mk (hbox); have n3_ := Aside0.mk ((by rw [hg]; exact (below_size (by repeat (first | (with_reducible first | exact HB.out | apply below_alloc | apply pw_below_drewN | apply below_drew1 | refine below_set ?_ GE164.out) | exact HB.out))) : w.heap.size ≤ gb165)); have n4_ := Aside0.mk ((by rw [hg]; exact (below_size (by repeat (first | (with_reducible first | exact HB.out | apply below_alloc | apply pw_below_drewN | apply below_drew1 | refine below_set ?_ GE164.out) | exact HB.out))) : w.heap.size ≤ gb165)); have n5_ := Aside0.mk ((by rw [hg]; exact Nat.ne_of_lt (blk_lt (g := gb164) (o := .cells #[.int .i64 a0_0, .int .i64 a0_1, .string a0_2] 23 (0, 0)) (by (with_reducible repeat (first | refine blk_drewN ?_ _ | refine blk_drew ?_ | refine blk_alloc ?_ _)); exact BK164.out)) : gb164 ≠ gb165)); have n6_ := Aside0.mk ((by rw [hg]; exact Nat.ne_of_gt (blk_lt (g := gb164) (o := .cells #[.int .i64 a0_0, .int .i64 a0_1, .string a0_2] 23 (0, 0)) (by (with_reducible repeat (first | refine blk_drewN ?_ _ | refine blk_drew ?_ | refine blk_alloc ?_ _)); exact BK164.out)) : gb165 ≠ gb164)); clear BK164; clear HB; have BK164 := n0_; have HB := n1_; have BK165 := n2_; have GW165 := n3_; have GE165 := n4_; have NB164_165 := n5_; have NB165_164 := n6_; clear n0_ n1_ n2_ n3_ n4_ n5_ n6_; clear hb hbox hg) | ((with_reducible refine gate_callee (f := 10) rfl ?_); refine goesL_ (some 6) rfl rfl Tryd.func10 (by kernel_rfl) rfl #[] rfl (by (try simp only [List.map_toArray, List.map_cons, List.map_nil]); first | done | rfl | (simp only [List.length_drop, List.length_take]; rfl)) ?_; (with_reducible refine (moultlaw1_shown.calls k  t166 _ A3.out ?hLaid).mono ?_); (case hLaid => exact HG.out.below (by repeat (first | (with_reducible first | exact HB.out | apply below_alloc | apply pw_below_drewN | apply below_drew1 | refine below_set ?_ GE164.out | refine below_set ?_ GE165.out) | exact HB.out))); rintro e w7 ⟨rfl, hb⟩; refine ⟨_, rfl, ?_⟩; have n0_ := Aside0.mk (blk_below (g := gb164) (o := .cells #[.int .i64 a0_0, .int .i64 a0_1, .string a0_2] 23 (0, 0)) (by (with_reducible repeat (first | refine blk_drewN ?_ _ | refine blk_drew ?_ | refine blk_alloc ?_ _)); exact BK164.out) hb); have n1_ := Aside0.mk (blk_below (g := gb165) (o := .cells #[.int .i64 a1_0, .int .i64 a1_1, .string a1_2] 23 (0, 0)) (by (with_reducible repeat (first | refine blk_drewN ?_ _ | refine blk_drew ?_ | refine blk_alloc ?_ _)); exact BK165.out) hb); have n2_ := Aside0.mk (below_step (by repeat (first | (with_reducible first | exact HB.out | apply below_alloc | apply pw_below_drewN | apply below_drew1 | refine below_set ?_ GE164.out | refine below_set ?_ GE165.out) | exact HB.out)) hb); clear BK164; clear BK165; clear HB; have BK164 := n0_; have BK165 := n1_; have HB := n2_; clear n0_ n1_ n2_; (try clear hb); (try clear hb2); (try clear hk); (try clear hi)))
 (try simp only [Act.put, List.setIfInBounds_toArray, List.set_cons_zero, List.set_cons_succ])
 go_cut [20] (fun v20 wc => ∃ (kq : Nat) (x20_3 : Bool), v20 = .bool x20_3 ∧ Aside0 (moultlaw1_ValueCompares.j0 kq t166 x20_3 a0_0 a0_1 a0_2 a1_0 a1_1 a1_2 = some r) ∧ Aside0 (kq ≤ k) ∧ Aside0 (wc.heap[gb164]? = some (.cells #[.int .i64 a0_0, .int .i64 a0_1, .string a0_2] 23 (0, 0))) ∧ Aside0 (wc.heap[gb165]? = some (.cells #[.int .i64 a1_0, .int .i64 a1_1, .string a1_2] 23 (0, 0))) ∧ Aside0 (Below w.heap.size w wc))
 case first =>
  have H := HC4.out
  clear HC4
  by_cases c8 : t166 = true
  ·subst c8
   have H1 : (if (a0_2.size : Int) > 3000 then (moultlaw1_ValueCompares.j0 k true true a0_0 a0_1 a0_2 a1_0 a1_1 a1_2) else (moultlaw1_ValueCompares.j0 k true (decide ((a1_2.size : Int) > 3000)) a0_0 a0_1 a0_2 a1_0 a1_1 a1_2)) = some r := by rw [if_pos rfl] at H; exact H
   clear H
   have H := H1
   clear H1
   by_cases c9 : (a0_2.size : Int) > 3000
   ·rw [if_pos c9] at H
    have c9b0 : decide (3000 < (a0_2.size : Int)) = true := decide_eq_true c9
    have c9b1 : decide (3000 < a0_2.size) = true := decide_eq_true (by omega)
    clear c9
    (first | rw [c9b0] | (simp only [i64_w, i32_w]; rw [c9b0]) | skip)
    have H' := Aside0.mk H
    clear H
    have hnb10 := NB164_165.out
    have hnc10 := NB165_164.out
    have hcz11_0 : w7.cell? ⟨gb164, 0, none⟩ = some (.int .i64 a0_0) := (blk_cell BK164.out 0).trans rfl
    have hcz11_1 : w7.cell? ⟨gb164, 1, none⟩ = some (.int .i64 a0_1) := (blk_cell BK164.out 1).trans rfl
    have hcz11_2 : w7.cell? ⟨gb164, 2, none⟩ = some (.string a0_2) := (blk_cell BK164.out 2).trans rfl
    have hfz11_0 := blk_frozen BK164.out 0
    have hfz11_1 := blk_frozen BK164.out 1
    have hfz11_2 := blk_frozen BK164.out 2
    go_wp2
    go_meet
    case rel => exact ⟨_, (true), (by first | rfl | (simp; done) | (simp [*]; done)), H', ⟨by first | omega | exact Nat.le_refl _⟩, ⟨by (with_reducible repeat (first | refine blk_drewN ?_ _ | refine blk_drew ?_ | refine blk_alloc ?_ _)); exact BK164.out⟩, ⟨by (with_reducible repeat (first | refine blk_drewN ?_ _ | refine blk_drew ?_ | refine blk_alloc ?_ _)); exact BK165.out⟩, ⟨by repeat (first | (with_reducible first | exact HB.out | apply below_alloc | apply pw_below_drewN | apply below_drew1 | refine below_set ?_ GE164.out | refine below_set ?_ GE165.out) | exact HB.out)⟩⟩
   ·rw [if_neg c9] at H
    have c9b0 : decide (3000 < (a0_2.size : Int)) = false := decide_eq_false c9
    have c9b1 : decide (3000 < a0_2.size) = false := decide_eq_false (by omega)
    clear c9
    (first | rw [c9b0] | (simp only [i64_w, i32_w]; rw [c9b0]) | skip)
    have H' := Aside0.mk H
    clear H
    have hnb12 := NB164_165.out
    have hnc12 := NB165_164.out
    have hcz13_0 : w7.cell? ⟨gb164, 0, none⟩ = some (.int .i64 a0_0) := (blk_cell BK164.out 0).trans rfl
    have hcz13_1 : w7.cell? ⟨gb164, 1, none⟩ = some (.int .i64 a0_1) := (blk_cell BK164.out 1).trans rfl
    have hcz13_2 : w7.cell? ⟨gb164, 2, none⟩ = some (.string a0_2) := (blk_cell BK164.out 2).trans rfl
    have hfz13_0 := blk_frozen BK164.out 0
    have hfz13_1 := blk_frozen BK164.out 1
    have hfz13_2 := blk_frozen BK164.out 2
    have hcz14_0 : w7.cell? ⟨gb165, 0, none⟩ = some (.int .i64 a1_0) := (blk_cell BK165.out 0).trans rfl
    have hcz14_1 : w7.cell? ⟨gb165, 1, none⟩ = some (.int .i64 a1_1) := (blk_cell BK165.out 1).trans rfl
    have hcz14_2 : w7.cell? ⟨gb165, 2, none⟩ = some (.string a1_2) := (blk_cell BK165.out 2).trans rfl
    have hfz14_0 := blk_frozen BK165.out 0
    have hfz14_1 := blk_frozen BK165.out 1
    have hfz14_2 := blk_frozen BK165.out 2
    go_wp2
    go_meet
    case rel => exact ⟨_, (decide ((a1_2.size : Int) > 3000)), (by first | rfl | (simp; done) | (simp [*]; done)), H', ⟨by first | omega | exact Nat.le_refl _⟩, ⟨by (with_reducible repeat (first | refine blk_drewN ?_ _ | refine blk_drew ?_ | refine blk_alloc ?_ _)); exact BK164.out⟩, ⟨by (with_reducible repeat (first | refine blk_drewN ?_ _ | refine blk_drew ?_ | refine blk_alloc ?_ _)); exact BK165.out⟩, ⟨by repeat (first | (with_reducible first | exact HB.out | apply below_alloc | apply pw_below_drewN | apply below_drew1 | refine below_set ?_ GE164.out | refine below_set ?_ GE165.out) | exact HB.out)⟩⟩
  ·replace c8 := Bool.eq_false_iff.mpr c8
   subst c8
   have H1 : (moultlaw1_ValueCompares.j0 k false true a0_0 a0_1 a0_2 a1_0 a1_1 a1_2) = some r := by rw [if_neg (show ¬ (false = true) by decide)] at H; exact H
   clear H
   have H := H1
   clear H1
   have H' := Aside0.mk H
   clear H
   go_wp2
   go_meet
   case rel => exact ⟨_, (true), (by first | rfl | (simp; done) | (simp [*]; done)), H', ⟨by first | omega | exact Nat.le_refl _⟩, ⟨by (with_reducible repeat (first | refine blk_drewN ?_ _ | refine blk_drew ?_ | refine blk_alloc ?_ _)); exact BK164.out⟩, ⟨by (with_reducible repeat (first | refine blk_drewN ?_ _ | refine blk_drew ?_ | refine blk_alloc ?_ _)); exact BK165.out⟩, ⟨by repeat (first | (with_reducible first | exact HB.out | apply below_alloc | apply pw_below_drewN | apply below_drew1 | refine below_set ?_ GE164.out | refine below_set ?_ GE165.out) | exact HB.out)⟩⟩
 case rest =>
  clear HC4
  try clear c1
  try clear p2
  try clear c3
  try clear c8
  try clear c9
  try clear c9b0
  try clear c9b1
  try clear c10
  try clear c12
  try clear hcz11_0
  try clear hcz11_1
  try clear hcz11_2
  try clear hcz13_0
  try clear hcz13_1
  try clear hcz13_2
  try clear hcz14_0
  try clear hcz14_1
  try clear hcz14_2
  try clear hfz11_0
  try clear hfz11_1
  try clear hfz11_2
  try clear hfz13_0
  try clear hfz13_1
  try clear hfz13_2
  try clear hfz14_0
  try clear hfz14_1
  try clear hfz14_2
  obtain ⟨kq, x20_3, rfl, HA, HJ3, BK164, BK165, HB⟩ := hcut
  cases kq with
  | zero => exact absurd HA.out (by simp [moultlaw1_ValueCompares.j0])
  | succ kj3 =>
   have H := HA.out
   clear HA
   simp only [moultlaw1_ValueCompares.j0] at H
   by_cases c15 : x20_3 = true
   ·subst c15
    have H1 : (some t166) = some r := by rw [if_pos rfl] at H; exact H
    clear H
    have H := H1
    clear H1
    obtain rfl := Option.some.inj H
    go_wp2
    go_ret
    exact ⟨by first | rfl | (simp [errW_none, errW_some] <;> rfl) | (simp [*, errW_none, errW_some] <;> rfl), by repeat (first | (with_reducible first | exact HB.out | apply below_alloc | apply pw_below_drewN | apply below_drew1 | refine below_set ?_ GE164.out | refine below_set ?_ GE165.out) | exact HB.out)⟩
   ·replace c15 := Bool.eq_false_iff.mpr c15
    subst c15
    have H1 : ((value_Compare.f kj3 a0_0 a0_1 a0_2 a1_0 a1_1 a1_2).bind fun t167 => ((moultref1_Compare.f kj3 a0_0 a0_1 a0_2 a1_0 a1_1 a1_2).bind fun t168 => (some (t167 == t168)))) = some r := by rw [if_neg (show ¬ (false = true) by decide)] at H; exact H
    clear H
    have H := H1
    clear H1
    replace H := Option.bind_eq_some_iff.mp H
    obtain ⟨t167, A160, H⟩ := H
    replace H : ((moultref1_Compare.f kj3 a0_0 a0_1 a0_2 a1_0 a1_1 a1_2).bind fun t168 => (some (t167 == t168))) = some r := H
    have A16 := Aside0.mk A160
    clear A160
    replace H := Option.bind_eq_some_iff.mp H
    obtain ⟨t168, A170, H⟩ := H
    replace H : (some (t167 == t168)) = some r := H
    have A17 := Aside0.mk A170
    clear A170
    obtain rfl := Option.some.inj H
    try go_wp2
    have n0_ := Aside0.mk (blk_drew BK164.out)
    have n1_ := Aside0.mk (blk_drew BK165.out)
    have n2_ := Aside0.mk (below_drew1 HB.out)
    clear BK164
    clear BK165
    clear HB
    have BK164 := n0_
    have BK165 := n1_
    have HB := n2_
    clear n0_ n1_ n2_
    refine start_ (n := 8) (S := fun w' => w'.cell? ⟨gb164, 0, none⟩ = some (.int .i64 a0_0) ∧ w'.cell? ⟨gb164, 1, none⟩ = some (.int .i64 a0_1) ∧ w'.cell? ⟨gb164, 2, none⟩ = some (.string a0_2) ∧ w'.cell? ⟨gb165, 0, none⟩ = some (.int .i64 a1_0) ∧ w'.cell? ⟨gb165, 1, none⟩ = some (.int .i64 a1_1) ∧ w'.cell? ⟨gb165, 2, none⟩ = some (.string a1_2)) (ds := []) #[false, false, false, false, false, false, false, false] (by kernel_rfl) rfl rfl ⟨(blk_cell BK164.out 0).trans rfl, (blk_cell BK164.out 1).trans rfl, (blk_cell BK164.out 2).trans rfl, (blk_cell BK165.out 0).trans rfl, (blk_cell BK165.out 1).trans rfl, (blk_cell BK165.out 2).trans rfl⟩ (fun hHeld => ?_); refine with_tabW moultlaw1_ValueCompares.tab4 moultlaw1_ValueCompares.bits4 (fun HT_ HW_ => ?_)
    generalize wc.drew = w18 at BK164 BK165 HB hHeld ⊢
    refine take_ (i := 0) (N := some 22) (v := ?_) (a' := ?_) #[true, false, false, false, false, false, false, false] rfl rfl (take_ofW HT_.out HW_.out (by kernel_rfl)) (fun _ _ _ h => h) (Or.inl ⟨by rfl, ?_⟩) hHeld ?_ ?_
    rotate_left
    ·rintro w' ⟨s0, s1, s2, s3, s4, s5⟩
     go_simp
     with_reducible rfl
    rotate_left
    ·simp only [Act.put, List.setIfInBounds_toArray, List.set_cons_zero, List.set_cons_succ, i64_w, i32_w]
     rfl
    refine take_ (i := 1) (N := some 23) (v := ?_) (a' := ?_) #[true, true, false, false, false, false, false, false] rfl rfl (take_ofW HT_.out HW_.out (by kernel_rfl)) (fun _ _ _ h => h) (Or.inl ⟨by rfl, ?_⟩) hHeld ?_ ?_
    rotate_left
    ·rintro w' ⟨s0, s1, s2, s3, s4, s5⟩
     go_simp
     with_reducible rfl
    rotate_left
    ·simp only [Act.put, List.setIfInBounds_toArray, List.set_cons_zero, List.set_cons_succ, i64_w, i32_w]
     rfl
    refine take_ (i := 3) (N := some 25) (v := ?_) (a' := ?_) #[true, true, false, true, false, false, false, false] rfl rfl (take_ofW HT_.out HW_.out (by kernel_rfl)) (fun _ _ _ h => h) (Or.inl ⟨by rfl, ?_⟩) hHeld ?_ ?_
    rotate_left
    ·rintro w' ⟨s0, s1, s2, s3, s4, s5⟩
     go_simp
     with_reducible rfl
    rotate_left
    ·simp only [Act.put, List.setIfInBounds_toArray, List.set_cons_zero, List.set_cons_succ, i64_w, i32_w]
     rfl
    refine take_ (i := 4) (N := some 26) (v := ?_) (a' := ?_) #[true, true, false, true, true, false, false, false] rfl rfl (take_ofW HT_.out HW_.out (by kernel_rfl)) (fun _ _ _ h => h) (Or.inl ⟨by rfl, ?_⟩) hHeld ?_ ?_
    rotate_left
    ·rintro w' ⟨s0, s1, s2, s3, s4, s5⟩
     go_simp
     with_reducible rfl
    rotate_left
    ·simp only [Act.put, List.setIfInBounds_toArray, List.set_cons_zero, List.set_cons_succ, i64_w, i32_w]
     rfl
    refine one_ (i := 2) (N := some 24) #[true, true, true, true, true, false, false, false] rfl rfl (one_of HT_.out (by kernel_rfl)) (by decide) (fun K hK => ?_)
    refine goes_ Tryd.func11 (by kernel_rfl) rfl #[.agg #[.int .i64 a0_0, .int .i64 a0_1, .string a0_2], .agg #[.int .i64 a1_0, .int .i64 a1_1, .string a1_2]] (by rfl) rfl rfl (by (try simp only [List.map_toArray, List.map_cons, List.map_nil]); first | done | rfl | (simp only [List.length_drop, List.length_take]; rfl)) ?_
    with_reducible refine (value_Compare.calls kj3 a0_0 a0_1 a0_2 a1_0 a1_1 a1_2 t167 _ A16.out).mono ?_
    rintro e w19 ⟨rfl, hb⟩
    refine ⟨_, rfl, ?_⟩
    have n0_ := Aside0.mk (blk_below (g := gb164) (o := .cells #[.int .i64 a0_0, .int .i64 a0_1, .string a0_2] 23 (0, 0)) (by (with_reducible repeat (first | refine blk_drewN ?_ _ | refine blk_drew ?_ | refine blk_alloc ?_ _)); exact BK164.out) hb)
    have n1_ := Aside0.mk (blk_below (g := gb165) (o := .cells #[.int .i64 a1_0, .int .i64 a1_1, .string a1_2] 23 (0, 0)) (by (with_reducible repeat (first | refine blk_drewN ?_ _ | refine blk_drew ?_ | refine blk_alloc ?_ _)); exact BK165.out) hb)
    have n2_ := Aside0.mk (below_step (by repeat (first | (with_reducible first | exact HB.out | apply below_alloc | apply pw_below_drewN | apply below_drew1 | refine below_set ?_ GE164.out | refine below_set ?_ GE165.out) | exact HB.out)) hb)
    clear BK164
    clear BK165
    clear HB
    have BK164 := n0_
    have BK165 := n1_
    have HB := n2_
    clear n0_ n1_ n2_
    (try clear hb)
    (try clear hb2)
    (try clear hk)
    (try clear hi)
    refine hK.out _ _ ⟨(blk_cell BK164.out 0).trans rfl, (blk_cell BK164.out 1).trans rfl, (blk_cell BK164.out 2).trans rfl, (blk_cell BK165.out 0).trans rfl, (blk_cell BK165.out 1).trans rfl, (blk_cell BK165.out 2).trans rfl⟩ (fun hHeld => ?_)
    clear hK K
    refine norm_ (a' := ?_) ?_ ?_
    rotate_left
    ·show Act.put _ (some 24) _ = _
     simp only [Act.put, List.setIfInBounds_toArray, List.set_cons_zero, List.set_cons_succ, i64_w, i32_w]
     rfl
    refine one_ (i := 5) (N := some 27) #[true, true, true, true, true, true, false, false] rfl rfl (one_of HT_.out (by kernel_rfl)) (by decide) (fun K hK => ?_)
    refine goes_ Tryd.func12 (by kernel_rfl) rfl #[.agg #[.int .i64 a0_0, .int .i64 a0_1, .string a0_2], .agg #[.int .i64 a1_0, .int .i64 a1_1, .string a1_2]] (by rfl) rfl rfl (by (try simp only [List.map_toArray, List.map_cons, List.map_nil]); first | done | rfl | (simp only [List.length_drop, List.length_take]; rfl)) ?_
    with_reducible refine (moultref1_Compare.calls kj3 a0_0 a0_1 a0_2 a1_0 a1_1 a1_2 t168 _ A17.out).mono ?_
    rintro e w20 ⟨rfl, hb⟩
    refine ⟨_, rfl, ?_⟩
    have n0_ := Aside0.mk (blk_below (g := gb164) (o := .cells #[.int .i64 a0_0, .int .i64 a0_1, .string a0_2] 23 (0, 0)) (by (with_reducible repeat (first | refine blk_drewN ?_ _ | refine blk_drew ?_ | refine blk_alloc ?_ _)); exact BK164.out) hb)
    have n1_ := Aside0.mk (blk_below (g := gb165) (o := .cells #[.int .i64 a1_0, .int .i64 a1_1, .string a1_2] 23 (0, 0)) (by (with_reducible repeat (first | refine blk_drewN ?_ _ | refine blk_drew ?_ | refine blk_alloc ?_ _)); exact BK165.out) hb)
    have n2_ := Aside0.mk (below_step (by repeat (first | (with_reducible first | exact HB.out | apply below_alloc | apply pw_below_drewN | apply below_drew1 | refine below_set ?_ GE164.out | refine below_set ?_ GE165.out) | exact HB.out)) hb)
    clear BK164
    clear BK165
    clear HB
    have BK164 := n0_
    have BK165 := n1_
    have HB := n2_
    clear n0_ n1_ n2_
    (try clear hb)
    (try clear hb2)
    (try clear hk)
    (try clear hi)
    refine hK.out _ _ ⟨(blk_cell BK164.out 0).trans rfl, (blk_cell BK164.out 1).trans rfl, (blk_cell BK164.out 2).trans rfl, (blk_cell BK165.out 0).trans rfl, (blk_cell BK165.out 1).trans rfl, (blk_cell BK165.out 2).trans rfl⟩ (fun hHeld => ?_)
    clear hK K
    refine norm_ (a' := ?_) ?_ ?_
    rotate_left
    ·show Act.put _ (some 27) _ = _
     simp only [Act.put, List.setIfInBounds_toArray, List.set_cons_zero, List.set_cons_succ, i64_w, i32_w]
     rfl
    refine pure_ (i := 6) (N := some 28) (v := ?_) (a' := ?_) #[true, true, true, true, true, true, true, false] rfl rfl (any_of HT_.out (by kernel_rfl)) (fun _ _ _ h => h) (Or.inl ⟨by rfl, ?_⟩) ?_ ?_
    rotate_left
    ·intro w'
     go_simp
     with_reducible rfl
    rotate_left
    ·simp only [Act.put, List.setIfInBounds_toArray, List.set_cons_zero, List.set_cons_succ, i64_w, i32_w]
     rfl
    refine pure_ (i := 7) (N := some 4) (v := ?_) (a' := ?_) #[true, true, true, true, true, true, true, true] rfl rfl (any_of HT_.out (by kernel_rfl)) (fun _ _ _ h => h) (Or.inl ⟨by rfl, ?_⟩) ?_ ?_
    rotate_left
    ·intro w'
     go_simp
     with_reducible rfl
    rotate_left
    ·simp only [Act.put, List.setIfInBounds_toArray, List.set_cons_zero, List.set_cons_succ, i64_w, i32_w]
     rfl
    refine done_ (done_of HT_.out (by kernel_rfl)) ?_
    try go_wp2
    go_ret
    exact ⟨by first | rfl | (simp [errW_none, errW_some] <;> rfl) | (simp [*, errW_none, errW_some] <;> rfl), by repeat (first | (with_reducible first | exact HB.out | apply below_alloc | apply pw_below_drewN | apply below_drew1 | refine below_set ?_ GE164.out | refine below_set ?_ GE165.out) | exact HB.out)⟩

/-! ### moultref1_Right: function 19 -/
def moultref1_Right.f (a0_0 : Int) (a0_1 : Int) (a0_2 : ByteArray) : Option (Bool) := if a0_0 = 1 then (if a0_1 = 0 then (some (a0_2.toList == ([] : List UInt8))) else (if a0_1 = 1 then (some (a0_2.toList == ([] : List UInt8))) else (some false))) else (if a0_0 = 2 then (if a0_1 ≥ (-32768) then (if a0_1 ≤ 32767 then (some (a0_2.toList == ([] : List UInt8))) else (some false)) else (some false)) else (if a0_0 = 3 then (if a0_1 ≥ (-2147483648) then (if a0_1 ≤ 2147483647 then (some (a0_2.toList == ([] : List UInt8))) else (some false)) else (some false)) else (if a0_0 = 4 then (some (a0_2.toList == ([] : List UInt8))) else (if a0_0 = 5 then (if a0_1 = 0 then (some (decide ((a0_2.size : Int) ≤ 32))) else (some false)) else (if a0_0 = 6 then (if a0_1 = 0 then (some (decide ((a0_2.size : Int) ≤ 1000))) else (some false)) else (some false))))))
set_option maxHeartbeats 8000000 in
set_option maxRecDepth 100000 in
theorem moultref1_Right.calls (a0_0 : Int) (a0_1 : Int) (a0_2 : ByteArray) (r : Bool) (w : World) (h : moultref1_Right.f a0_0 a0_1 a0_2 = some r) :
  Calls Tryd.prog 19 #[.agg #[.int .i64 a0_0, .int .i64 a0_1, .string a0_2]] w fun e w' => e = .returned (.bool r) ∧ Below w.heap.size w w' := by
 have hu23 := Tryd.underlying23
 have HB := Aside0.mk (Below.refl w.heap.size w)
 have H : (if a0_0 = 1 then (if a0_1 = 0 then (some (a0_2.toList == ([] : List UInt8))) else (if a0_1 = 1 then (some (a0_2.toList == ([] : List UInt8))) else (some false))) else (if a0_0 = 2 then (if a0_1 ≥ (-32768) then (if a0_1 ≤ 32767 then (some (a0_2.toList == ([] : List UInt8))) else (some false)) else (some false)) else (if a0_0 = 3 then (if a0_1 ≥ (-2147483648) then (if a0_1 ≤ 2147483647 then (some (a0_2.toList == ([] : List UInt8))) else (some false)) else (some false)) else (if a0_0 = 4 then (some (a0_2.toList == ([] : List UInt8))) else (if a0_0 = 5 then (if a0_1 = 0 then (some (decide ((a0_2.size : Int) ≤ 32))) else (some false)) else (if a0_0 = 6 then (if a0_1 = 0 then (some (decide ((a0_2.size : Int) ≤ 1000))) else (some false)) else (some false))))))) = some r := h
 clear h
 by_cases c2 : a0_0 = 1
 ·rw [if_pos c2] at H
  have c2b0 : (a0_0 == 1) = true := beq_iff_eq.mpr c2
  have c2b1 : (a0_0 != 1) = false := bne_eq_false_iff_eq.mpr c2
  clear c2
  by_cases c3 : a0_1 = 0
  ·rw [if_pos c3] at H
   have c3b0 : (a0_1 == 0) = true := beq_iff_eq.mpr c3
   have c3b1 : (a0_1 != 0) = false := bne_eq_false_iff_eq.mpr c3
   clear c3
   obtain rfl := Option.some.inj H
   go_enter Tryd.func19, Tryd.ntmps19
   go_wp2_with (first | ((with_reducible refine gate_dst (N := 1) rfl ?_); (try (refine gate_guard (by rfl) ?_; dsimp only)); refine box_event ?hg (N := 1) ?hd (cs := #[.int .i64 a0_0, .int .i64 a0_1, .string a0_2]) (t := 23) ?hr ?_; (case hd => rfl); (case hg => rfl); (case hr => first | (go_simp; done) | (go_simp; rfl)); intro gb169 hg w4 hbox hb; have n0_ := Aside0.mk (below_step (by repeat (first | (with_reducible first | exact HB.out | apply below_alloc | apply pw_below_drewN | apply below_drew1) | exact HB.out)) hb); have n1_ := Aside0.mk (hbox); have n2_ := Aside0.mk ((by rw [hg]; exact (below_size (by repeat (first | (with_reducible first | exact HB.out | apply below_alloc | apply pw_below_drewN | apply below_drew1) | exact HB.out))) : w.heap.size ≤ gb169)); have n3_ := Aside0.mk ((by rw [hg]; exact (below_size (by repeat (first | (with_reducible first | exact HB.out | apply below_alloc | apply pw_below_drewN | apply below_drew1) | exact HB.out))) : w.heap.size ≤ gb169)); clear HB; have HB := n0_; have BK169 := n1_; have GW169 := n2_; have GE169 := n3_; clear n0_ n1_ n2_ n3_; clear hb hbox hg; have hcz5_0 : w4.cell? ⟨gb169, 0, none⟩ = some (.int .i64 a0_0) := (blk_cell BK169.out 0).trans rfl; have hcz5_1 : w4.cell? ⟨gb169, 1, none⟩ = some (.int .i64 a0_1) := (blk_cell BK169.out 1).trans rfl; have hcz5_2 : w4.cell? ⟨gb169, 2, none⟩ = some (.string a0_2) := (blk_cell BK169.out 2).trans rfl; have hfz5_0 := blk_frozen BK169.out 0; have hfz5_1 := blk_frozen BK169.out 1; have hfz5_2 := blk_frozen BK169.out 2))
   go_ret
   exact ⟨by first | rfl | (simp [errW_none, errW_some] <;> rfl) | (simp [*, errW_none, errW_some] <;> rfl), by repeat (first | (with_reducible first | exact HB.out | apply below_alloc | apply pw_below_drewN | apply below_drew1 | refine below_set ?_ GE169.out) | exact HB.out)⟩
  ·rw [if_neg c3] at H
   have c3b0 : (a0_1 == 0) = false := beq_eq_false_iff_ne.mpr c3
   have c3b1 : (a0_1 != 0) = true := bne_iff_ne.mpr c3
   by_cases c6 : a0_1 = 1
   ·rw [if_pos c6] at H
    have c6b0 : (a0_1 == 1) = true := beq_iff_eq.mpr c6
    have c6b1 : (a0_1 != 1) = false := bne_eq_false_iff_eq.mpr c6
    clear c6
    obtain rfl := Option.some.inj H
    go_enter Tryd.func19, Tryd.ntmps19
    go_wp2_with (first | ((with_reducible refine gate_dst (N := 1) rfl ?_); (try (refine gate_guard (by rfl) ?_; dsimp only)); refine box_event ?hg (N := 1) ?hd (cs := #[.int .i64 a0_0, .int .i64 a0_1, .string a0_2]) (t := 23) ?hr ?_; (case hd => rfl); (case hg => rfl); (case hr => first | (go_simp; done) | (go_simp; rfl)); intro gb169 hg w7 hbox hb; have n0_ := Aside0.mk (below_step (by repeat (first | (with_reducible first | exact HB.out | apply below_alloc | apply pw_below_drewN | apply below_drew1) | exact HB.out)) hb); have n1_ := Aside0.mk (hbox); have n2_ := Aside0.mk ((by rw [hg]; exact (below_size (by repeat (first | (with_reducible first | exact HB.out | apply below_alloc | apply pw_below_drewN | apply below_drew1) | exact HB.out))) : w.heap.size ≤ gb169)); have n3_ := Aside0.mk ((by rw [hg]; exact (below_size (by repeat (first | (with_reducible first | exact HB.out | apply below_alloc | apply pw_below_drewN | apply below_drew1) | exact HB.out))) : w.heap.size ≤ gb169)); clear HB; have HB := n0_; have BK169 := n1_; have GW169 := n2_; have GE169 := n3_; clear n0_ n1_ n2_ n3_; clear hb hbox hg; have hcz8_0 : w7.cell? ⟨gb169, 0, none⟩ = some (.int .i64 a0_0) := (blk_cell BK169.out 0).trans rfl; have hcz8_1 : w7.cell? ⟨gb169, 1, none⟩ = some (.int .i64 a0_1) := (blk_cell BK169.out 1).trans rfl; have hcz8_2 : w7.cell? ⟨gb169, 2, none⟩ = some (.string a0_2) := (blk_cell BK169.out 2).trans rfl; have hfz8_0 := blk_frozen BK169.out 0; have hfz8_1 := blk_frozen BK169.out 1; have hfz8_2 := blk_frozen BK169.out 2))
    go_ret
    exact ⟨by first | rfl | (simp [errW_none, errW_some] <;> rfl) | (simp [*, errW_none, errW_some] <;> rfl), by repeat (first | (with_reducible first | exact HB.out | apply below_alloc | apply pw_below_drewN | apply below_drew1 | refine below_set ?_ GE169.out) | exact HB.out)⟩
   ·rw [if_neg c6] at H
    have c6b0 : (a0_1 == 1) = false := beq_eq_false_iff_ne.mpr c6
    have c6b1 : (a0_1 != 1) = true := bne_iff_ne.mpr c6
    obtain rfl := Option.some.inj H
    go_enter Tryd.func19, Tryd.ntmps19
    go_wp2_with (first | ((with_reducible refine gate_dst (N := 1) rfl ?_); (try (refine gate_guard (by rfl) ?_; dsimp only)); refine box_event ?hg (N := 1) ?hd (cs := #[.int .i64 a0_0, .int .i64 a0_1, .string a0_2]) (t := 23) ?hr ?_; (case hd => rfl); (case hg => rfl); (case hr => first | (go_simp; done) | (go_simp; rfl)); intro gb169 hg w9 hbox hb; have n0_ := Aside0.mk (below_step (by repeat (first | (with_reducible first | exact HB.out | apply below_alloc | apply pw_below_drewN | apply below_drew1) | exact HB.out)) hb); have n1_ := Aside0.mk (hbox); have n2_ := Aside0.mk ((by rw [hg]; exact (below_size (by repeat (first | (with_reducible first | exact HB.out | apply below_alloc | apply pw_below_drewN | apply below_drew1) | exact HB.out))) : w.heap.size ≤ gb169)); have n3_ := Aside0.mk ((by rw [hg]; exact (below_size (by repeat (first | (with_reducible first | exact HB.out | apply below_alloc | apply pw_below_drewN | apply below_drew1) | exact HB.out))) : w.heap.size ≤ gb169)); clear HB; have HB := n0_; have BK169 := n1_; have GW169 := n2_; have GE169 := n3_; clear n0_ n1_ n2_ n3_; clear hb hbox hg; have hcz10_0 : w9.cell? ⟨gb169, 0, none⟩ = some (.int .i64 a0_0) := (blk_cell BK169.out 0).trans rfl; have hcz10_1 : w9.cell? ⟨gb169, 1, none⟩ = some (.int .i64 a0_1) := (blk_cell BK169.out 1).trans rfl; have hcz10_2 : w9.cell? ⟨gb169, 2, none⟩ = some (.string a0_2) := (blk_cell BK169.out 2).trans rfl; have hfz10_0 := blk_frozen BK169.out 0; have hfz10_1 := blk_frozen BK169.out 1; have hfz10_2 := blk_frozen BK169.out 2))
    go_ret
    exact ⟨by first | rfl | (simp [errW_none, errW_some] <;> rfl) | (simp [*, errW_none, errW_some] <;> rfl), by repeat (first | (with_reducible first | exact HB.out | apply below_alloc | apply pw_below_drewN | apply below_drew1 | refine below_set ?_ GE169.out) | exact HB.out)⟩
 ·rw [if_neg c2] at H
  have c2b0 : (a0_0 == 1) = false := beq_eq_false_iff_ne.mpr c2
  have c2b1 : (a0_0 != 1) = true := bne_iff_ne.mpr c2
  by_cases c11 : a0_0 = 2
  ·rw [if_pos c11] at H
   have c11b0 : (a0_0 == 2) = true := beq_iff_eq.mpr c11
   have c11b1 : (a0_0 != 2) = false := bne_eq_false_iff_eq.mpr c11
   clear c11
   by_cases c12 : a0_1 ≥ (-32768)
   ·rw [if_pos c12] at H
    have c12b0 : decide ((-32768) ≤ a0_1) = true := decide_eq_true c12
    clear c12
    by_cases c13 : a0_1 ≤ 32767
    ·rw [if_pos c13] at H
     have c13b0 : decide (a0_1 ≤ 32767) = true := decide_eq_true c13
     clear c13
     obtain rfl := Option.some.inj H
     go_enter Tryd.func19, Tryd.ntmps19
     go_wp2_with (first | ((with_reducible refine gate_dst (N := 1) rfl ?_); (try (refine gate_guard (by rfl) ?_; dsimp only)); refine box_event ?hg (N := 1) ?hd (cs := #[.int .i64 a0_0, .int .i64 a0_1, .string a0_2]) (t := 23) ?hr ?_; (case hd => rfl); (case hg => rfl); (case hr => first | (go_simp; done) | (go_simp; rfl)); intro gb169 hg w14 hbox hb; have n0_ := Aside0.mk (below_step (by repeat (first | (with_reducible first | exact HB.out | apply below_alloc | apply pw_below_drewN | apply below_drew1) | exact HB.out)) hb); have n1_ := Aside0.mk (hbox); have n2_ := Aside0.mk ((by rw [hg]; exact (below_size (by repeat (first | (with_reducible first | exact HB.out | apply below_alloc | apply pw_below_drewN | apply below_drew1) | exact HB.out))) : w.heap.size ≤ gb169)); have n3_ := Aside0.mk ((by rw [hg]; exact (below_size (by repeat (first | (with_reducible first | exact HB.out | apply below_alloc | apply pw_below_drewN | apply below_drew1) | exact HB.out))) : w.heap.size ≤ gb169)); clear HB; have HB := n0_; have BK169 := n1_; have GW169 := n2_; have GE169 := n3_; clear n0_ n1_ n2_ n3_; clear hb hbox hg; have hcz15_0 : w14.cell? ⟨gb169, 0, none⟩ = some (.int .i64 a0_0) := (blk_cell BK169.out 0).trans rfl; have hcz15_1 : w14.cell? ⟨gb169, 1, none⟩ = some (.int .i64 a0_1) := (blk_cell BK169.out 1).trans rfl; have hcz15_2 : w14.cell? ⟨gb169, 2, none⟩ = some (.string a0_2) := (blk_cell BK169.out 2).trans rfl; have hfz15_0 := blk_frozen BK169.out 0; have hfz15_1 := blk_frozen BK169.out 1; have hfz15_2 := blk_frozen BK169.out 2))
     go_ret
     exact ⟨by first | rfl | (simp [errW_none, errW_some] <;> rfl) | (simp [*, errW_none, errW_some] <;> rfl), by repeat (first | (with_reducible first | exact HB.out | apply below_alloc | apply pw_below_drewN | apply below_drew1 | refine below_set ?_ GE169.out) | exact HB.out)⟩
    ·rw [if_neg c13] at H
     have c13b0 : decide (a0_1 ≤ 32767) = false := decide_eq_false c13
     clear c13
     obtain rfl := Option.some.inj H
     go_enter Tryd.func19, Tryd.ntmps19
     go_wp2_with (first | ((with_reducible refine gate_dst (N := 1) rfl ?_); (try (refine gate_guard (by rfl) ?_; dsimp only)); refine box_event ?hg (N := 1) ?hd (cs := #[.int .i64 a0_0, .int .i64 a0_1, .string a0_2]) (t := 23) ?hr ?_; (case hd => rfl); (case hg => rfl); (case hr => first | (go_simp; done) | (go_simp; rfl)); intro gb169 hg w16 hbox hb; have n0_ := Aside0.mk (below_step (by repeat (first | (with_reducible first | exact HB.out | apply below_alloc | apply pw_below_drewN | apply below_drew1) | exact HB.out)) hb); have n1_ := Aside0.mk (hbox); have n2_ := Aside0.mk ((by rw [hg]; exact (below_size (by repeat (first | (with_reducible first | exact HB.out | apply below_alloc | apply pw_below_drewN | apply below_drew1) | exact HB.out))) : w.heap.size ≤ gb169)); have n3_ := Aside0.mk ((by rw [hg]; exact (below_size (by repeat (first | (with_reducible first | exact HB.out | apply below_alloc | apply pw_below_drewN | apply below_drew1) | exact HB.out))) : w.heap.size ≤ gb169)); clear HB; have HB := n0_; have BK169 := n1_; have GW169 := n2_; have GE169 := n3_; clear n0_ n1_ n2_ n3_; clear hb hbox hg; have hcz17_0 : w16.cell? ⟨gb169, 0, none⟩ = some (.int .i64 a0_0) := (blk_cell BK169.out 0).trans rfl; have hcz17_1 : w16.cell? ⟨gb169, 1, none⟩ = some (.int .i64 a0_1) := (blk_cell BK169.out 1).trans rfl; have hcz17_2 : w16.cell? ⟨gb169, 2, none⟩ = some (.string a0_2) := (blk_cell BK169.out 2).trans rfl; have hfz17_0 := blk_frozen BK169.out 0; have hfz17_1 := blk_frozen BK169.out 1; have hfz17_2 := blk_frozen BK169.out 2))
     go_ret
     exact ⟨by first | rfl | (simp [errW_none, errW_some] <;> rfl) | (simp [*, errW_none, errW_some] <;> rfl), by repeat (first | (with_reducible first | exact HB.out | apply below_alloc | apply pw_below_drewN | apply below_drew1 | refine below_set ?_ GE169.out) | exact HB.out)⟩
   ·rw [if_neg c12] at H
    have c12b0 : decide ((-32768) ≤ a0_1) = false := decide_eq_false c12
    clear c12
    obtain rfl := Option.some.inj H
    go_enter Tryd.func19, Tryd.ntmps19
    go_wp2_with (first | ((with_reducible refine gate_dst (N := 1) rfl ?_); (try (refine gate_guard (by rfl) ?_; dsimp only)); refine box_event ?hg (N := 1) ?hd (cs := #[.int .i64 a0_0, .int .i64 a0_1, .string a0_2]) (t := 23) ?hr ?_; (case hd => rfl); (case hg => rfl); (case hr => first | (go_simp; done) | (go_simp; rfl)); intro gb169 hg w18 hbox hb; have n0_ := Aside0.mk (below_step (by repeat (first | (with_reducible first | exact HB.out | apply below_alloc | apply pw_below_drewN | apply below_drew1) | exact HB.out)) hb); have n1_ := Aside0.mk (hbox); have n2_ := Aside0.mk ((by rw [hg]; exact (below_size (by repeat (first | (with_reducible first | exact HB.out | apply below_alloc | apply pw_below_drewN | apply below_drew1) | exact HB.out))) : w.heap.size ≤ gb169)); have n3_ := Aside0.mk ((by rw [hg]; exact (below_size (by repeat (first | (with_reducible first | exact HB.out | apply below_alloc | apply pw_below_drewN | apply below_drew1) | exact HB.out))) : w.heap.size ≤ gb169)); clear HB; have HB := n0_; have BK169 := n1_; have GW169 := n2_; have GE169 := n3_; clear n0_ n1_ n2_ n3_; clear hb hbox hg; have hcz19_0 : w18.cell? ⟨gb169, 0, none⟩ = some (.int .i64 a0_0) := (blk_cell BK169.out 0).trans rfl; have hcz19_1 : w18.cell? ⟨gb169, 1, none⟩ = some (.int .i64 a0_1) := (blk_cell BK169.out 1).trans rfl; have hcz19_2 : w18.cell? ⟨gb169, 2, none⟩ = some (.string a0_2) := (blk_cell BK169.out 2).trans rfl; have hfz19_0 := blk_frozen BK169.out 0; have hfz19_1 := blk_frozen BK169.out 1; have hfz19_2 := blk_frozen BK169.out 2))
    go_ret
    exact ⟨by first | rfl | (simp [errW_none, errW_some] <;> rfl) | (simp [*, errW_none, errW_some] <;> rfl), by repeat (first | (with_reducible first | exact HB.out | apply below_alloc | apply pw_below_drewN | apply below_drew1 | refine below_set ?_ GE169.out) | exact HB.out)⟩
  ·rw [if_neg c11] at H
   have c11b0 : (a0_0 == 2) = false := beq_eq_false_iff_ne.mpr c11
   have c11b1 : (a0_0 != 2) = true := bne_iff_ne.mpr c11
   by_cases c20 : a0_0 = 3
   ·rw [if_pos c20] at H
    have c20b0 : (a0_0 == 3) = true := beq_iff_eq.mpr c20
    have c20b1 : (a0_0 != 3) = false := bne_eq_false_iff_eq.mpr c20
    clear c20
    by_cases c21 : a0_1 ≥ (-2147483648)
    ·rw [if_pos c21] at H
     have c21b0 : decide ((-2147483648) ≤ a0_1) = true := decide_eq_true c21
     clear c21
     by_cases c22 : a0_1 ≤ 2147483647
     ·rw [if_pos c22] at H
      have c22b0 : decide (a0_1 ≤ 2147483647) = true := decide_eq_true c22
      clear c22
      obtain rfl := Option.some.inj H
      go_enter Tryd.func19, Tryd.ntmps19
      go_wp2_with (first | ((with_reducible refine gate_dst (N := 1) rfl ?_); (try (refine gate_guard (by rfl) ?_; dsimp only)); refine box_event ?hg (N := 1) ?hd (cs := #[.int .i64 a0_0, .int .i64 a0_1, .string a0_2]) (t := 23) ?hr ?_; (case hd => rfl); (case hg => rfl); (case hr => first | (go_simp; done) | (go_simp; rfl)); intro gb169 hg w23 hbox hb; have n0_ := Aside0.mk (below_step (by repeat (first | (with_reducible first | exact HB.out | apply below_alloc | apply pw_below_drewN | apply below_drew1) | exact HB.out)) hb); have n1_ := Aside0.mk (hbox); have n2_ := Aside0.mk ((by rw [hg]; exact (below_size (by repeat (first | (with_reducible first | exact HB.out | apply below_alloc | apply pw_below_drewN | apply below_drew1) | exact HB.out))) : w.heap.size ≤ gb169)); have n3_ := Aside0.mk ((by rw [hg]; exact (below_size (by repeat (first | (with_reducible first | exact HB.out | apply below_alloc | apply pw_below_drewN | apply below_drew1) | exact HB.out))) : w.heap.size ≤ gb169)); clear HB; have HB := n0_; have BK169 := n1_; have GW169 := n2_; have GE169 := n3_; clear n0_ n1_ n2_ n3_; clear hb hbox hg; have hcz24_0 : w23.cell? ⟨gb169, 0, none⟩ = some (.int .i64 a0_0) := (blk_cell BK169.out 0).trans rfl; have hcz24_1 : w23.cell? ⟨gb169, 1, none⟩ = some (.int .i64 a0_1) := (blk_cell BK169.out 1).trans rfl; have hcz24_2 : w23.cell? ⟨gb169, 2, none⟩ = some (.string a0_2) := (blk_cell BK169.out 2).trans rfl; have hfz24_0 := blk_frozen BK169.out 0; have hfz24_1 := blk_frozen BK169.out 1; have hfz24_2 := blk_frozen BK169.out 2))
      go_ret
      exact ⟨by first | rfl | (simp [errW_none, errW_some] <;> rfl) | (simp [*, errW_none, errW_some] <;> rfl), by repeat (first | (with_reducible first | exact HB.out | apply below_alloc | apply pw_below_drewN | apply below_drew1 | refine below_set ?_ GE169.out) | exact HB.out)⟩
     ·rw [if_neg c22] at H
      have c22b0 : decide (a0_1 ≤ 2147483647) = false := decide_eq_false c22
      clear c22
      obtain rfl := Option.some.inj H
      go_enter Tryd.func19, Tryd.ntmps19
      go_wp2_with (first | ((with_reducible refine gate_dst (N := 1) rfl ?_); (try (refine gate_guard (by rfl) ?_; dsimp only)); refine box_event ?hg (N := 1) ?hd (cs := #[.int .i64 a0_0, .int .i64 a0_1, .string a0_2]) (t := 23) ?hr ?_; (case hd => rfl); (case hg => rfl); (case hr => first | (go_simp; done) | (go_simp; rfl)); intro gb169 hg w25 hbox hb; have n0_ := Aside0.mk (below_step (by repeat (first | (with_reducible first | exact HB.out | apply below_alloc | apply pw_below_drewN | apply below_drew1) | exact HB.out)) hb); have n1_ := Aside0.mk (hbox); have n2_ := Aside0.mk ((by rw [hg]; exact (below_size (by repeat (first | (with_reducible first | exact HB.out | apply below_alloc | apply pw_below_drewN | apply below_drew1) | exact HB.out))) : w.heap.size ≤ gb169)); have n3_ := Aside0.mk ((by rw [hg]; exact (below_size (by repeat (first | (with_reducible first | exact HB.out | apply below_alloc | apply pw_below_drewN | apply below_drew1) | exact HB.out))) : w.heap.size ≤ gb169)); clear HB; have HB := n0_; have BK169 := n1_; have GW169 := n2_; have GE169 := n3_; clear n0_ n1_ n2_ n3_; clear hb hbox hg; have hcz26_0 : w25.cell? ⟨gb169, 0, none⟩ = some (.int .i64 a0_0) := (blk_cell BK169.out 0).trans rfl; have hcz26_1 : w25.cell? ⟨gb169, 1, none⟩ = some (.int .i64 a0_1) := (blk_cell BK169.out 1).trans rfl; have hcz26_2 : w25.cell? ⟨gb169, 2, none⟩ = some (.string a0_2) := (blk_cell BK169.out 2).trans rfl; have hfz26_0 := blk_frozen BK169.out 0; have hfz26_1 := blk_frozen BK169.out 1; have hfz26_2 := blk_frozen BK169.out 2))
      go_ret
      exact ⟨by first | rfl | (simp [errW_none, errW_some] <;> rfl) | (simp [*, errW_none, errW_some] <;> rfl), by repeat (first | (with_reducible first | exact HB.out | apply below_alloc | apply pw_below_drewN | apply below_drew1 | refine below_set ?_ GE169.out) | exact HB.out)⟩
    ·rw [if_neg c21] at H
     have c21b0 : decide ((-2147483648) ≤ a0_1) = false := decide_eq_false c21
     clear c21
     obtain rfl := Option.some.inj H
     go_enter Tryd.func19, Tryd.ntmps19
     go_wp2_with (first | ((with_reducible refine gate_dst (N := 1) rfl ?_); (try (refine gate_guard (by rfl) ?_; dsimp only)); refine box_event ?hg (N := 1) ?hd (cs := #[.int .i64 a0_0, .int .i64 a0_1, .string a0_2]) (t := 23) ?hr ?_; (case hd => rfl); (case hg => rfl); (case hr => first | (go_simp; done) | (go_simp; rfl)); intro gb169 hg w27 hbox hb; have n0_ := Aside0.mk (below_step (by repeat (first | (with_reducible first | exact HB.out | apply below_alloc | apply pw_below_drewN | apply below_drew1) | exact HB.out)) hb); have n1_ := Aside0.mk (hbox); have n2_ := Aside0.mk ((by rw [hg]; exact (below_size (by repeat (first | (with_reducible first | exact HB.out | apply below_alloc | apply pw_below_drewN | apply below_drew1) | exact HB.out))) : w.heap.size ≤ gb169)); have n3_ := Aside0.mk ((by rw [hg]; exact (below_size (by repeat (first | (with_reducible first | exact HB.out | apply below_alloc | apply pw_below_drewN | apply below_drew1) | exact HB.out))) : w.heap.size ≤ gb169)); clear HB; have HB := n0_; have BK169 := n1_; have GW169 := n2_; have GE169 := n3_; clear n0_ n1_ n2_ n3_; clear hb hbox hg; have hcz28_0 : w27.cell? ⟨gb169, 0, none⟩ = some (.int .i64 a0_0) := (blk_cell BK169.out 0).trans rfl; have hcz28_1 : w27.cell? ⟨gb169, 1, none⟩ = some (.int .i64 a0_1) := (blk_cell BK169.out 1).trans rfl; have hcz28_2 : w27.cell? ⟨gb169, 2, none⟩ = some (.string a0_2) := (blk_cell BK169.out 2).trans rfl; have hfz28_0 := blk_frozen BK169.out 0; have hfz28_1 := blk_frozen BK169.out 1; have hfz28_2 := blk_frozen BK169.out 2))
     go_ret
     exact ⟨by first | rfl | (simp [errW_none, errW_some] <;> rfl) | (simp [*, errW_none, errW_some] <;> rfl), by repeat (first | (with_reducible first | exact HB.out | apply below_alloc | apply pw_below_drewN | apply below_drew1 | refine below_set ?_ GE169.out) | exact HB.out)⟩
   ·rw [if_neg c20] at H
    have c20b0 : (a0_0 == 3) = false := beq_eq_false_iff_ne.mpr c20
    have c20b1 : (a0_0 != 3) = true := bne_iff_ne.mpr c20
    by_cases c29 : a0_0 = 4
    ·rw [if_pos c29] at H
     have c29b0 : (a0_0 == 4) = true := beq_iff_eq.mpr c29
     have c29b1 : (a0_0 != 4) = false := bne_eq_false_iff_eq.mpr c29
     clear c29
     obtain rfl := Option.some.inj H
     go_enter Tryd.func19, Tryd.ntmps19
     go_wp2_with (first | ((with_reducible refine gate_dst (N := 1) rfl ?_); (try (refine gate_guard (by rfl) ?_; dsimp only)); refine box_event ?hg (N := 1) ?hd (cs := #[.int .i64 a0_0, .int .i64 a0_1, .string a0_2]) (t := 23) ?hr ?_; (case hd => rfl); (case hg => rfl); (case hr => first | (go_simp; done) | (go_simp; rfl)); intro gb169 hg w30 hbox hb; have n0_ := Aside0.mk (below_step (by repeat (first | (with_reducible first | exact HB.out | apply below_alloc | apply pw_below_drewN | apply below_drew1) | exact HB.out)) hb); have n1_ := Aside0.mk (hbox); have n2_ := Aside0.mk ((by rw [hg]; exact (below_size (by repeat (first | (with_reducible first | exact HB.out | apply below_alloc | apply pw_below_drewN | apply below_drew1) | exact HB.out))) : w.heap.size ≤ gb169)); have n3_ := Aside0.mk ((by rw [hg]; exact (below_size (by repeat (first | (with_reducible first | exact HB.out | apply below_alloc | apply pw_below_drewN | apply below_drew1) | exact HB.out))) : w.heap.size ≤ gb169)); clear HB; have HB := n0_; have BK169 := n1_; have GW169 := n2_; have GE169 := n3_; clear n0_ n1_ n2_ n3_; clear hb hbox hg; have hcz31_0 : w30.cell? ⟨gb169, 0, none⟩ = some (.int .i64 a0_0) := (blk_cell BK169.out 0).trans rfl; have hcz31_1 : w30.cell? ⟨gb169, 1, none⟩ = some (.int .i64 a0_1) := (blk_cell BK169.out 1).trans rfl; have hcz31_2 : w30.cell? ⟨gb169, 2, none⟩ = some (.string a0_2) := (blk_cell BK169.out 2).trans rfl; have hfz31_0 := blk_frozen BK169.out 0; have hfz31_1 := blk_frozen BK169.out 1; have hfz31_2 := blk_frozen BK169.out 2))
     go_ret
     exact ⟨by first | rfl | (simp [errW_none, errW_some] <;> rfl) | (simp [*, errW_none, errW_some] <;> rfl), by repeat (first | (with_reducible first | exact HB.out | apply below_alloc | apply pw_below_drewN | apply below_drew1 | refine below_set ?_ GE169.out) | exact HB.out)⟩
    ·rw [if_neg c29] at H
     have c29b0 : (a0_0 == 4) = false := beq_eq_false_iff_ne.mpr c29
     have c29b1 : (a0_0 != 4) = true := bne_iff_ne.mpr c29
     by_cases c32 : a0_0 = 5
     ·rw [if_pos c32] at H
      have c32b0 : (a0_0 == 5) = true := beq_iff_eq.mpr c32
      have c32b1 : (a0_0 != 5) = false := bne_eq_false_iff_eq.mpr c32
      clear c32
      by_cases c33 : a0_1 = 0
      ·rw [if_pos c33] at H
       have c33b0 : (a0_1 == 0) = true := beq_iff_eq.mpr c33
       have c33b1 : (a0_1 != 0) = false := bne_eq_false_iff_eq.mpr c33
       clear c33
       obtain rfl := Option.some.inj H
       go_enter Tryd.func19, Tryd.ntmps19
       go_wp2_with (first | ((with_reducible refine gate_dst (N := 1) rfl ?_); (try (refine gate_guard (by rfl) ?_; dsimp only)); refine box_event ?hg (N := 1) ?hd (cs := #[.int .i64 a0_0, .int .i64 a0_1, .string a0_2]) (t := 23) ?hr ?_; (case hd => rfl); (case hg => rfl); (case hr => first | (go_simp; done) | (go_simp; rfl)); intro gb169 hg w34 hbox hb; have n0_ := Aside0.mk (below_step (by repeat (first | (with_reducible first | exact HB.out | apply below_alloc | apply pw_below_drewN | apply below_drew1) | exact HB.out)) hb); have n1_ := Aside0.mk (hbox); have n2_ := Aside0.mk ((by rw [hg]; exact (below_size (by repeat (first | (with_reducible first | exact HB.out | apply below_alloc | apply pw_below_drewN | apply below_drew1) | exact HB.out))) : w.heap.size ≤ gb169)); have n3_ := Aside0.mk ((by rw [hg]; exact (below_size (by repeat (first | (with_reducible first | exact HB.out | apply below_alloc | apply pw_below_drewN | apply below_drew1) | exact HB.out))) : w.heap.size ≤ gb169)); clear HB; have HB := n0_; have BK169 := n1_; have GW169 := n2_; have GE169 := n3_; clear n0_ n1_ n2_ n3_; clear hb hbox hg; have hcz35_0 : w34.cell? ⟨gb169, 0, none⟩ = some (.int .i64 a0_0) := (blk_cell BK169.out 0).trans rfl; have hcz35_1 : w34.cell? ⟨gb169, 1, none⟩ = some (.int .i64 a0_1) := (blk_cell BK169.out 1).trans rfl; have hcz35_2 : w34.cell? ⟨gb169, 2, none⟩ = some (.string a0_2) := (blk_cell BK169.out 2).trans rfl; have hfz35_0 := blk_frozen BK169.out 0; have hfz35_1 := blk_frozen BK169.out 1; have hfz35_2 := blk_frozen BK169.out 2))
       go_ret
       exact ⟨by first | rfl | (simp [errW_none, errW_some] <;> rfl) | (simp [*, errW_none, errW_some] <;> rfl), by repeat (first | (with_reducible first | exact HB.out | apply below_alloc | apply pw_below_drewN | apply below_drew1 | refine below_set ?_ GE169.out) | exact HB.out)⟩
      ·rw [if_neg c33] at H
       have c33b0 : (a0_1 == 0) = false := beq_eq_false_iff_ne.mpr c33
       have c33b1 : (a0_1 != 0) = true := bne_iff_ne.mpr c33
       obtain rfl := Option.some.inj H
       go_enter Tryd.func19, Tryd.ntmps19
       go_wp2_with (first | ((with_reducible refine gate_dst (N := 1) rfl ?_); (try (refine gate_guard (by rfl) ?_; dsimp only)); refine box_event ?hg (N := 1) ?hd (cs := #[.int .i64 a0_0, .int .i64 a0_1, .string a0_2]) (t := 23) ?hr ?_; (case hd => rfl); (case hg => rfl); (case hr => first | (go_simp; done) | (go_simp; rfl)); intro gb169 hg w36 hbox hb; have n0_ := Aside0.mk (below_step (by repeat (first | (with_reducible first | exact HB.out | apply below_alloc | apply pw_below_drewN | apply below_drew1) | exact HB.out)) hb); have n1_ := Aside0.mk (hbox); have n2_ := Aside0.mk ((by rw [hg]; exact (below_size (by repeat (first | (with_reducible first | exact HB.out | apply below_alloc | apply pw_below_drewN | apply below_drew1) | exact HB.out))) : w.heap.size ≤ gb169)); have n3_ := Aside0.mk ((by rw [hg]; exact (below_size (by repeat (first | (with_reducible first | exact HB.out | apply below_alloc | apply pw_below_drewN | apply below_drew1) | exact HB.out))) : w.heap.size ≤ gb169)); clear HB; have HB := n0_; have BK169 := n1_; have GW169 := n2_; have GE169 := n3_; clear n0_ n1_ n2_ n3_; clear hb hbox hg; have hcz37_0 : w36.cell? ⟨gb169, 0, none⟩ = some (.int .i64 a0_0) := (blk_cell BK169.out 0).trans rfl; have hcz37_1 : w36.cell? ⟨gb169, 1, none⟩ = some (.int .i64 a0_1) := (blk_cell BK169.out 1).trans rfl; have hcz37_2 : w36.cell? ⟨gb169, 2, none⟩ = some (.string a0_2) := (blk_cell BK169.out 2).trans rfl; have hfz37_0 := blk_frozen BK169.out 0; have hfz37_1 := blk_frozen BK169.out 1; have hfz37_2 := blk_frozen BK169.out 2))
       go_ret
       exact ⟨by first | rfl | (simp [errW_none, errW_some] <;> rfl) | (simp [*, errW_none, errW_some] <;> rfl), by repeat (first | (with_reducible first | exact HB.out | apply below_alloc | apply pw_below_drewN | apply below_drew1 | refine below_set ?_ GE169.out) | exact HB.out)⟩
     ·rw [if_neg c32] at H
      have c32b0 : (a0_0 == 5) = false := beq_eq_false_iff_ne.mpr c32
      have c32b1 : (a0_0 != 5) = true := bne_iff_ne.mpr c32
      by_cases c38 : a0_0 = 6
      ·rw [if_pos c38] at H
       have c38b0 : (a0_0 == 6) = true := beq_iff_eq.mpr c38
       have c38b1 : (a0_0 != 6) = false := bne_eq_false_iff_eq.mpr c38
       clear c38
       by_cases c39 : a0_1 = 0
       ·rw [if_pos c39] at H
        have c39b0 : (a0_1 == 0) = true := beq_iff_eq.mpr c39
        have c39b1 : (a0_1 != 0) = false := bne_eq_false_iff_eq.mpr c39
        clear c39
        obtain rfl := Option.some.inj H
        go_enter Tryd.func19, Tryd.ntmps19
        go_wp2_with (first | ((with_reducible refine gate_dst (N := 1) rfl ?_); (try (refine gate_guard (by rfl) ?_; dsimp only)); refine box_event ?hg (N := 1) ?hd (cs := #[.int .i64 a0_0, .int .i64 a0_1, .string a0_2]) (t := 23) ?hr ?_; (case hd => rfl); (case hg => rfl); (case hr => first | (go_simp; done) | (go_simp; rfl)); intro gb169 hg w40 hbox hb; have n0_ := Aside0.mk (below_step (by repeat (first | (with_reducible first | exact HB.out | apply below_alloc | apply pw_below_drewN | apply below_drew1) | exact HB.out)) hb); have n1_ := Aside0.mk (hbox); have n2_ := Aside0.mk ((by rw [hg]; exact (below_size (by repeat (first | (with_reducible first | exact HB.out | apply below_alloc | apply pw_below_drewN | apply below_drew1) | exact HB.out))) : w.heap.size ≤ gb169)); have n3_ := Aside0.mk ((by rw [hg]; exact (below_size (by repeat (first | (with_reducible first | exact HB.out | apply below_alloc | apply pw_below_drewN | apply below_drew1) | exact HB.out))) : w.heap.size ≤ gb169)); clear HB; have HB := n0_; have BK169 := n1_; have GW169 := n2_; have GE169 := n3_; clear n0_ n1_ n2_ n3_; clear hb hbox hg; have hcz41_0 : w40.cell? ⟨gb169, 0, none⟩ = some (.int .i64 a0_0) := (blk_cell BK169.out 0).trans rfl; have hcz41_1 : w40.cell? ⟨gb169, 1, none⟩ = some (.int .i64 a0_1) := (blk_cell BK169.out 1).trans rfl; have hcz41_2 : w40.cell? ⟨gb169, 2, none⟩ = some (.string a0_2) := (blk_cell BK169.out 2).trans rfl; have hfz41_0 := blk_frozen BK169.out 0; have hfz41_1 := blk_frozen BK169.out 1; have hfz41_2 := blk_frozen BK169.out 2))
        go_ret
        exact ⟨by first | rfl | (simp [errW_none, errW_some] <;> rfl) | (simp [*, errW_none, errW_some] <;> rfl), by repeat (first | (with_reducible first | exact HB.out | apply below_alloc | apply pw_below_drewN | apply below_drew1 | refine below_set ?_ GE169.out) | exact HB.out)⟩
       ·rw [if_neg c39] at H
        have c39b0 : (a0_1 == 0) = false := beq_eq_false_iff_ne.mpr c39
        have c39b1 : (a0_1 != 0) = true := bne_iff_ne.mpr c39
        obtain rfl := Option.some.inj H
        go_enter Tryd.func19, Tryd.ntmps19
        go_wp2_with (first | ((with_reducible refine gate_dst (N := 1) rfl ?_); (try (refine gate_guard (by rfl) ?_; dsimp only)); refine box_event ?hg (N := 1) ?hd (cs := #[.int .i64 a0_0, .int .i64 a0_1, .string a0_2]) (t := 23) ?hr ?_; (case hd => rfl); (case hg => rfl); (case hr => first | (go_simp; done) | (go_simp; rfl)); intro gb169 hg w42 hbox hb; have n0_ := Aside0.mk (below_step (by repeat (first | (with_reducible first | exact HB.out | apply below_alloc | apply pw_below_drewN | apply below_drew1) | exact HB.out)) hb); have n1_ := Aside0.mk (hbox); have n2_ := Aside0.mk ((by rw [hg]; exact (below_size (by repeat (first | (with_reducible first | exact HB.out | apply below_alloc | apply pw_below_drewN | apply below_drew1) | exact HB.out))) : w.heap.size ≤ gb169)); have n3_ := Aside0.mk ((by rw [hg]; exact (below_size (by repeat (first | (with_reducible first | exact HB.out | apply below_alloc | apply pw_below_drewN | apply below_drew1) | exact HB.out))) : w.heap.size ≤ gb169)); clear HB; have HB := n0_; have BK169 := n1_; have GW169 := n2_; have GE169 := n3_; clear n0_ n1_ n2_ n3_; clear hb hbox hg; have hcz43_0 : w42.cell? ⟨gb169, 0, none⟩ = some (.int .i64 a0_0) := (blk_cell BK169.out 0).trans rfl; have hcz43_1 : w42.cell? ⟨gb169, 1, none⟩ = some (.int .i64 a0_1) := (blk_cell BK169.out 1).trans rfl; have hcz43_2 : w42.cell? ⟨gb169, 2, none⟩ = some (.string a0_2) := (blk_cell BK169.out 2).trans rfl; have hfz43_0 := blk_frozen BK169.out 0; have hfz43_1 := blk_frozen BK169.out 1; have hfz43_2 := blk_frozen BK169.out 2))
        go_ret
        exact ⟨by first | rfl | (simp [errW_none, errW_some] <;> rfl) | (simp [*, errW_none, errW_some] <;> rfl), by repeat (first | (with_reducible first | exact HB.out | apply below_alloc | apply pw_below_drewN | apply below_drew1 | refine below_set ?_ GE169.out) | exact HB.out)⟩
      ·rw [if_neg c38] at H
       have c38b0 : (a0_0 == 6) = false := beq_eq_false_iff_ne.mpr c38
       have c38b1 : (a0_0 != 6) = true := bne_iff_ne.mpr c38
       obtain rfl := Option.some.inj H
       go_enter Tryd.func19, Tryd.ntmps19
       go_wp2_with (first | ((with_reducible refine gate_dst (N := 1) rfl ?_); (try (refine gate_guard (by rfl) ?_; dsimp only)); refine box_event ?hg (N := 1) ?hd (cs := #[.int .i64 a0_0, .int .i64 a0_1, .string a0_2]) (t := 23) ?hr ?_; (case hd => rfl); (case hg => rfl); (case hr => first | (go_simp; done) | (go_simp; rfl)); intro gb169 hg w44 hbox hb; have n0_ := Aside0.mk (below_step (by repeat (first | (with_reducible first | exact HB.out | apply below_alloc | apply pw_below_drewN | apply below_drew1) | exact HB.out)) hb); have n1_ := Aside0.mk (hbox); have n2_ := Aside0.mk ((by rw [hg]; exact (below_size (by repeat (first | (with_reducible first | exact HB.out | apply below_alloc | apply pw_below_drewN | apply below_drew1) | exact HB.out))) : w.heap.size ≤ gb169)); have n3_ := Aside0.mk ((by rw [hg]; exact (below_size (by repeat (first | (with_reducible first | exact HB.out | apply below_alloc | apply pw_below_drewN | apply below_drew1) | exact HB.out))) : w.heap.size ≤ gb169)); clear HB; have HB := n0_; have BK169 := n1_; have GW169 := n2_; have GE169 := n3_; clear n0_ n1_ n2_ n3_; clear hb hbox hg; have hcz45_0 : w44.cell? ⟨gb169, 0, none⟩ = some (.int .i64 a0_0) := (blk_cell BK169.out 0).trans rfl; have hcz45_1 : w44.cell? ⟨gb169, 1, none⟩ = some (.int .i64 a0_1) := (blk_cell BK169.out 1).trans rfl; have hcz45_2 : w44.cell? ⟨gb169, 2, none⟩ = some (.string a0_2) := (blk_cell BK169.out 2).trans rfl; have hfz45_0 := blk_frozen BK169.out 0; have hfz45_1 := blk_frozen BK169.out 1; have hfz45_2 := blk_frozen BK169.out 2))
       go_ret
       exact ⟨by first | rfl | (simp [errW_none, errW_some] <;> rfl) | (simp [*, errW_none, errW_some] <;> rfl), by repeat (first | (with_reducible first | exact HB.out | apply below_alloc | apply pw_below_drewN | apply below_drew1 | refine below_set ?_ GE169.out) | exact HB.out)⟩

/-! ### moultref1_digits: function 38 -/
def moultref1_digits.f : Nat → Int → Option (ByteArray)
 | 0, _ => none
 | k + 1, a0 => if a0 > (-10) then (if 0 ≤ (wrap64 (-(Int.tmod a0 10))) then (if (wrap64 (-(Int.tmod a0 10))) ≤ (wrap64 ((wrap64 (-(Int.tmod a0 10))) + 1)) then (if (wrap64 ((wrap64 (-(Int.tmod a0 10))) + 1)) ≤ 10 then (some ((⟨#[48, 49, 50, 51, 52, 53, 54, 55, 56, 57]⟩ : ByteArray).extract ((wrap64 (-(Int.tmod a0 10))) : Int).toNat ((wrap64 ((wrap64 (-(Int.tmod a0 10))) + 1)) : Int).toNat)) else (none)) else (none)) else (none)) else ((moultref1_digits.f k (wrap64 (Int.tdiv a0 10))).bind fun t170 => (if 0 ≤ (wrap64 (-(Int.tmod a0 10))) then (if (wrap64 (-(Int.tmod a0 10))) ≤ (wrap64 ((wrap64 (-(Int.tmod a0 10))) + 1)) then (if (wrap64 ((wrap64 (-(Int.tmod a0 10))) + 1)) ≤ 10 then (if t170.size + ((⟨#[48, 49, 50, 51, 52, 53, 54, 55, 56, 57]⟩ : ByteArray).extract ((wrap64 (-(Int.tmod a0 10))) : Int).toNat ((wrap64 ((wrap64 (-(Int.tmod a0 10))) + 1)) : Int).toNat).size ≤ 9223372036854775807 then (some (t170 ++ ((⟨#[48, 49, 50, 51, 52, 53, 54, 55, 56, 57]⟩ : ByteArray).extract ((wrap64 (-(Int.tmod a0 10))) : Int).toNat ((wrap64 ((wrap64 (-(Int.tmod a0 10))) + 1)) : Int).toNat))) else (none)) else (none)) else (none)) else (none)))
theorem moultref1_digits.mono_l : ∀ k, (∀ y0, LeO (moultref1_digits.f k y0) (moultref1_digits.f (k + 1) y0))
 | 0 => fun _ r h => by simp [moultref1_digits.f] at h
 | k + 1 => by
  have ih0 := moultref1_digits.mono_l k
  ·intro y0
   unfold moultref1_digits.f
   repeat' first
   | (with_reducible exact ih0 _)
   | (with_reducible exact LeO.refl _)
   | (with_reducible exact LeO.none _)
   | (with_reducible refine LeO.ite ?_ ?_)
   | (with_reducible refine LeO.bind ?_ (fun _ => ?_))
   | exact ih0 _
   | exact LeO.none _
   | refine LeO.ite ?_ ?_
   | refine LeO.bind ?_ (fun _ => ?_)
theorem moultref1_digits.mono : ∀ a0 k, LeO (moultref1_digits.f k a0) (moultref1_digits.f (k + 1) a0) := by
 intro a0 k
 have ih0 := moultref1_digits.mono_l k
 exact ih0 a0
def moultref1_digits.T4 : Bool × List (List Nat × List Nat) := (true, [([], []), ([0], [0]), ([1], [1]), ([], []), ([], []), ([4], [4]), ([3, 5], [3, 5]), ([2, 6], [2, 6]), ([7, 2, 0, 1, 2, 3, 4, 5, 6, 7], [7])])
def moultref1_digits.B4 : List Nat := [0, 1, 3, 0, 0, 16, 56, 127, 255]
theorem moultref1_digits.tab4 : rtab .any (opsOf Tryd.f38 4) = moultref1_digits.T4 := by kernel_rfl
theorem moultref1_digits.bits4 : waitsOk moultref1_digits.T4.2 moultref1_digits.B4 = true := by kernel_rfl
set_option maxHeartbeats 8000000 in
set_option maxRecDepth 100000 in
theorem moultref1_digits.calls (k : Nat) : ∀ (a0 : Int) (r : ByteArray) (w : World) (h : moultref1_digits.f k a0 = some r),
  Calls Tryd.prog 38 #[.int .i64 a0] w fun e w' => e = .returned (.string r) ∧ Below w.heap.size w w' := by
 induction k using Nat.strongRecOn with
 | _ k ih =>
 intro a0 r w h
 cases k with
 | zero => exact absurd h (by simp [moultref1_digits.f])
 | succ k =>
 simp only [moultref1_digits.f] at h
 have HB := Aside0.mk (Below.refl w.heap.size w)
 have H : (if a0 > (-10) then (if 0 ≤ (wrap64 (-(Int.tmod a0 10))) then (if (wrap64 (-(Int.tmod a0 10))) ≤ (wrap64 ((wrap64 (-(Int.tmod a0 10))) + 1)) then (if (wrap64 ((wrap64 (-(Int.tmod a0 10))) + 1)) ≤ 10 then (some ((⟨#[48, 49, 50, 51, 52, 53, 54, 55, 56, 57]⟩ : ByteArray).extract ((wrap64 (-(Int.tmod a0 10))) : Int).toNat ((wrap64 ((wrap64 (-(Int.tmod a0 10))) + 1)) : Int).toNat)) else (none)) else (none)) else (none)) else ((moultref1_digits.f k (wrap64 (Int.tdiv a0 10))).bind fun t170 => (if 0 ≤ (wrap64 (-(Int.tmod a0 10))) then (if (wrap64 (-(Int.tmod a0 10))) ≤ (wrap64 ((wrap64 (-(Int.tmod a0 10))) + 1)) then (if (wrap64 ((wrap64 (-(Int.tmod a0 10))) + 1)) ≤ 10 then (if t170.size + ((⟨#[48, 49, 50, 51, 52, 53, 54, 55, 56, 57]⟩ : ByteArray).extract ((wrap64 (-(Int.tmod a0 10))) : Int).toNat ((wrap64 ((wrap64 (-(Int.tmod a0 10))) + 1)) : Int).toNat).size ≤ 9223372036854775807 then (some (t170 ++ ((⟨#[48, 49, 50, 51, 52, 53, 54, 55, 56, 57]⟩ : ByteArray).extract ((wrap64 (-(Int.tmod a0 10))) : Int).toNat ((wrap64 ((wrap64 (-(Int.tmod a0 10))) + 1)) : Int).toNat))) else (none)) else (none)) else (none)) else (none)))) = some r := h
 clear h
 by_cases c2 : a0 > (-10)
 ·rw [if_pos c2] at H
  have c2b0 : decide ((-10) < a0) = true := decide_eq_true c2
  clear c2
  obtain ⟨ji3, hji3⟩ : ∃ j_ : Int, (wrap64 (-(Int.tmod a0 10))) = j_ := ⟨_, rfl⟩
  replace H : (if 0 ≤ (ji3) then (if (ji3) ≤ (wrap64 ((ji3) + 1)) then (if (wrap64 ((ji3) + 1)) ≤ 10 then (some ((⟨#[48, 49, 50, 51, 52, 53, 54, 55, 56, 57]⟩ : ByteArray).extract ((ji3) : Int).toNat ((wrap64 ((ji3) + 1)) : Int).toNat)) else (none)) else (none)) else (none)) = some r := by first | (rw [hji3] at H; exact H) | (simp only [hji3] at H ⊢; exact H)
  have hji3w : (IntKind.i64.wrap (-(Int.tmod a0 10))) = ji3 := (i64_w _).trans hji3
  by_cases c4 : 0 ≤ (ji3)
  ·rw [if_pos c4] at H
   have c4b0 := eq_true c4
   have c4b1 : decide (0 ≤ (ji3)) = true := decide_eq_true c4
   clear c4
   by_cases c5 : (ji3) ≤ (wrap64 ((ji3) + 1))
   ·rw [if_pos c5] at H
    have c5b0 := eq_true c5
    have c5b1 : decide ((ji3) ≤ (wrap64 ((ji3) + 1))) = true := decide_eq_true c5
    by_cases c6 : (wrap64 ((ji3) + 1)) ≤ 10
    ·rw [if_pos c6] at H
     have c6b0 := eq_true c6
     have c6b1 : decide ((wrap64 ((ji3) + 1)) ≤ 10) = true := decide_eq_true c6
     obtain rfl := Option.some.inj H
     go_enter Tryd.func38, Tryd.ntmps38
     go_wp2
     go_ret
     exact ⟨by first | rfl | (simp [errW_none, errW_some] <;> rfl) | (simp only [← hji3]; first | rfl | (simp [errW_none, errW_some] <;> rfl)) | (simp [*, errW_none, errW_some] <;> rfl), by repeat (first | (with_reducible first | exact HB.out | apply below_alloc | apply pw_below_drewN | apply below_drew1) | exact HB.out)⟩
    ·rw [if_neg c6] at H
     exact absurd H (by simp)
   ·rw [if_neg c5] at H
    exact absurd H (by simp)
  ·rw [if_neg c4] at H
   exact absurd H (by simp)
 ·rw [if_neg c2] at H
  have c2b0 : decide ((-10) < a0) = false := decide_eq_false c2
  clear c2
  replace H := Option.bind_eq_some_iff.mp H
  obtain ⟨t170, A70, H⟩ := H
  replace H : (if 0 ≤ (wrap64 (-(Int.tmod a0 10))) then (if (wrap64 (-(Int.tmod a0 10))) ≤ (wrap64 ((wrap64 (-(Int.tmod a0 10))) + 1)) then (if (wrap64 ((wrap64 (-(Int.tmod a0 10))) + 1)) ≤ 10 then (if t170.size + ((⟨#[48, 49, 50, 51, 52, 53, 54, 55, 56, 57]⟩ : ByteArray).extract ((wrap64 (-(Int.tmod a0 10))) : Int).toNat ((wrap64 ((wrap64 (-(Int.tmod a0 10))) + 1)) : Int).toNat).size ≤ 9223372036854775807 then (some (t170 ++ ((⟨#[48, 49, 50, 51, 52, 53, 54, 55, 56, 57]⟩ : ByteArray).extract ((wrap64 (-(Int.tmod a0 10))) : Int).toNat ((wrap64 ((wrap64 (-(Int.tmod a0 10))) + 1)) : Int).toNat))) else (none)) else (none)) else (none)) else (none)) = some r := H
  have A7 := Aside0.mk A70
  clear A70
  obtain ⟨ji8, hji8⟩ : ∃ j_ : Int, (wrap64 (-(Int.tmod a0 10))) = j_ := ⟨_, rfl⟩
  replace H : (if 0 ≤ (ji8) then (if (ji8) ≤ (wrap64 ((ji8) + 1)) then (if (wrap64 ((ji8) + 1)) ≤ 10 then (if t170.size + ((⟨#[48, 49, 50, 51, 52, 53, 54, 55, 56, 57]⟩ : ByteArray).extract ((ji8) : Int).toNat ((wrap64 ((ji8) + 1)) : Int).toNat).size ≤ 9223372036854775807 then (some (t170 ++ ((⟨#[48, 49, 50, 51, 52, 53, 54, 55, 56, 57]⟩ : ByteArray).extract ((ji8) : Int).toNat ((wrap64 ((ji8) + 1)) : Int).toNat))) else (none)) else (none)) else (none)) else (none)) = some r := by first | (rw [hji8] at H; exact H) | (simp only [hji8] at H ⊢; exact H)
  (try rw [hji8] at A7)
  have hji8w : (IntKind.i64.wrap (-(Int.tmod a0 10))) = ji8 := (i64_w _).trans hji8
  by_cases c9 : 0 ≤ (ji8)
  ·rw [if_pos c9] at H
   have c9b0 := eq_true c9
   have c9b1 : decide (0 ≤ (ji8)) = true := decide_eq_true c9
   clear c9
   by_cases c10 : (ji8) ≤ (wrap64 ((ji8) + 1))
   ·rw [if_pos c10] at H
    have c10b0 := eq_true c10
    have c10b1 : decide ((ji8) ≤ (wrap64 ((ji8) + 1))) = true := decide_eq_true c10
    by_cases c11 : (wrap64 ((ji8) + 1)) ≤ 10
    ·rw [if_pos c11] at H
     have c11b0 := eq_true c11
     have c11b1 : decide ((wrap64 ((ji8) + 1)) ≤ 10) = true := decide_eq_true c11
     by_cases c12 : t170.size + ((⟨#[48, 49, 50, 51, 52, 53, 54, 55, 56, 57]⟩ : ByteArray).extract ((ji8) : Int).toNat ((wrap64 ((ji8) + 1)) : Int).toNat).size ≤ 9223372036854775807
     ·rw [if_pos c12] at H
      have c12b0 := eq_true c12
      have c12b1 : decide (t170.size + ((⟨#[48, 49, 50, 51, 52, 53, 54, 55, 56, 57]⟩ : ByteArray).extract ((ji8) : Int).toNat ((wrap64 ((ji8) + 1)) : Int).toNat).size ≤ 9223372036854775807) = true := decide_eq_true c12
      try have c12b2 : (9223372036854775807 < t170.size + ((⟨#[48, 49, 50, 51, 52, 53, 54, 55, 56, 57]⟩ : ByteArray).extract ((ji8) : Int).toNat ((wrap64 ((ji8) + 1)) : Int).toNat).size) = False := eq_false (Nat.not_lt.2 c12)
      have c12b3 : (9223372036854775807 < t170.size + ((wrap64 (ji8 + 1)).toNat - ji8.toNat)) = False := by
       have hq : ((⟨#[48, 49, 50, 51, 52, 53, 54, 55, 56, 57]⟩ : ByteArray).extract ji8.toNat (wrap64 (ji8 + 1)).toNat).size = (wrap64 (ji8 + 1)).toNat - ji8.toNat := by
        rw [ByteArray.size_extract]; have h10 : (⟨#[48, 49, 50, 51, 52, 53, 54, 55, 56, 57]⟩ : ByteArray).size = 10 := rfl; rw [h10]; omega
       rw [← hq]; exact c12b2
      obtain rfl := Option.some.inj H
      go_enter Tryd.func38, Tryd.ntmps38
      try go_wp2
      have n0_ := Aside0.mk (below_drew1 HB.out)
      clear HB
      have HB := n0_
      clear n0_
      refine start_ (n := 9) (S := fun w' => True) (ds := []) #[false, false, false, false, false, false, false, false, false] (by kernel_rfl) rfl rfl trivial (fun hHeld => ?_); refine with_tabW moultref1_digits.tab4 moultref1_digits.bits4 (fun HT_ HW_ => ?_)
      generalize w.drew = w13 at HB hHeld ⊢
      refine pure_ (i := 0) (N := some 13) (v := ?_) (a' := ?_) #[true, false, false, false, false, false, false, false, false] rfl rfl (any_of HT_.out (by kernel_rfl)) (fun _ _ _ h => h) (Or.inl ⟨by rfl, ?_⟩) ?_ ?_
      rotate_left
      ·intro w'
       go_simp
       with_reducible rfl
      rotate_left
      ·simp only [Act.put, List.setIfInBounds_toArray, List.set_cons_zero, List.set_cons_succ, i64_w, i32_w]
       rfl
      refine pure_ (i := 1) (N := some 14) (v := ?_) (a' := ?_) #[true, true, false, false, false, false, false, false, false] rfl rfl (any_of HT_.out (by kernel_rfl)) (fun _ _ _ h => h) (Or.inl ⟨by rfl, ?_⟩) ?_ ?_
      rotate_left
      ·intro w'
       go_simp
       with_reducible rfl
      rotate_left
      ·simp only [Act.put, List.setIfInBounds_toArray, List.set_cons_zero, List.set_cons_succ, i64_w, i32_w]
       rfl
      refine pure_ (i := 3) (N := some 16) (v := ?_) (a' := ?_) #[true, true, false, true, false, false, false, false, false] rfl rfl (any_of HT_.out (by kernel_rfl)) (fun _ _ _ h => h) (Or.inl ⟨by rfl, ?_⟩) ?_ ?_
      rotate_left
      ·intro w'
       go_simp
       with_reducible rfl
      rotate_left
      ·simp only [Act.put, List.setIfInBounds_toArray, List.set_cons_zero, List.set_cons_succ, i64_w, i32_w]
       rfl
      refine pure_ (i := 4) (N := some 17) (v := ?_) (a' := ?_) #[true, true, false, true, true, false, false, false, false] rfl rfl (any_of HT_.out (by kernel_rfl)) (fun _ _ _ h => h) (Or.inl ⟨by rfl, ?_⟩) ?_ ?_
      rotate_left
      ·intro w'
       go_simp
       with_reducible rfl
      rotate_left
      ·simp only [Act.put, List.setIfInBounds_toArray, List.set_cons_zero, List.set_cons_succ, i64_w, i32_w]
       rfl
      refine pure_ (i := 5) (N := some 18) (v := ?_) (a' := ?_) #[true, true, false, true, true, true, false, false, false] rfl rfl (any_of HT_.out (by kernel_rfl)) (fun _ _ _ h => h) (Or.inl ⟨by rfl, ?_⟩) ?_ ?_
      rotate_left
      ·intro w'
       go_simp
       with_reducible rfl
      rotate_left
      ·simp only [Act.put, List.setIfInBounds_toArray, List.set_cons_zero, List.set_cons_succ, i64_w, i32_w]
       rfl
      refine pure_ (i := 6) (N := some 19) (v := ?_) (a' := ?_) #[true, true, false, true, true, true, true, false, false] rfl rfl (any_of HT_.out (by kernel_rfl)) (fun _ _ _ h => h) (Or.inl ⟨by rfl, ?_⟩) ?_ ?_
      rotate_left
      ·intro w'
       go_simp
       with_reducible rfl
      rotate_left
      ·simp only [Act.put, List.setIfInBounds_toArray, List.set_cons_zero, List.set_cons_succ, i64_w, i32_w]
       rfl
      refine one_ (i := 2) (N := some 15) #[true, true, true, true, true, true, true, false, false] rfl rfl (one_of HT_.out (by kernel_rfl)) (by decide) (fun K hK => ?_)
      refine goes_ Tryd.func38 (by kernel_rfl) rfl #[.int .i64 (wrap64 (Int.tdiv a0 10))] (by rfl) rfl rfl (by (try simp only [List.map_toArray, List.map_cons, List.map_nil]); first | done | rfl | (simp only [List.length_drop, List.length_take]; rfl)) ?_
      with_reducible refine (ih k (by omega) (wrap64 (Int.tdiv a0 10)) t170 _ A7.out).mono ?_
      rintro e w14 ⟨rfl, hb⟩
      refine ⟨_, rfl, ?_⟩
      have n0_ := Aside0.mk (below_step (by repeat (first | (with_reducible first | exact HB.out | apply below_alloc | apply pw_below_drewN | apply below_drew1) | exact HB.out)) hb)
      clear HB
      have HB := n0_
      clear n0_
      (try clear hb)
      (try clear hb2)
      (try clear hk)
      (try clear hi)
      refine hK.out _ _ trivial (fun hHeld => ?_)
      clear hK K
      refine norm_ (a' := ?_) ?_ ?_
      rotate_left
      ·show Act.put _ (some 15) _ = _
       simp only [Act.put, List.setIfInBounds_toArray, List.set_cons_zero, List.set_cons_succ, i64_w, i32_w]
       rfl
      refine pure_ (i := 7) (N := some 20) (v := ?_) (a' := ?_) #[true, true, true, true, true, true, true, true, false] rfl rfl (any_of HT_.out (by kernel_rfl)) (fun _ _ _ h => h) (Or.inl ⟨by rfl, ?_⟩) ?_ ?_
      rotate_left
      ·intro w'
       go_simp
       with_reducible rfl
      rotate_left
      ·simp only [Act.put, List.setIfInBounds_toArray, List.set_cons_zero, List.set_cons_succ, i64_w, i32_w]
       rfl
      refine pure_ (i := 8) (N := some 2) (v := ?_) (a' := ?_) #[true, true, true, true, true, true, true, true, true] rfl rfl (any_of HT_.out (by kernel_rfl)) (fun _ _ _ h => h) (Or.inl ⟨by rfl, ?_⟩) ?_ ?_
      rotate_left
      ·intro w'
       go_simp
       with_reducible rfl
      rotate_left
      ·simp only [Act.put, List.setIfInBounds_toArray, List.set_cons_zero, List.set_cons_succ, i64_w, i32_w]
       rfl
      refine done_ (done_of HT_.out (by kernel_rfl)) ?_
      try go_wp2
      go_ret
      exact ⟨by first | rfl | (simp [errW_none, errW_some] <;> rfl) | (simp only [← hji8]; first | rfl | (simp [errW_none, errW_some] <;> rfl)) | (simp [*, errW_none, errW_some] <;> rfl), by repeat (first | (with_reducible first | exact HB.out | apply below_alloc | apply pw_below_drewN | apply below_drew1) | exact HB.out)⟩
     ·rw [if_neg c12] at H
      exact absurd H (by simp)
    ·rw [if_neg c11] at H
     exact absurd H (by simp)
   ·rw [if_neg c10] at H
    exact absurd H (by simp)
  ·rw [if_neg c9] at H
   exact absurd H (by simp)

/-! ### moultref1_Decimal: function 26 -/
def moultref1_Decimal.f (k : Nat) (a0 : Int) : Option (ByteArray) := if a0 < 0 then ((moultref1_digits.f k a0).bind fun t171 => (if 1 + t171.size ≤ 9223372036854775807 then (some ((⟨#[45]⟩ : ByteArray) ++ t171)) else (none))) else ((moultref1_digits.f k (wrap64 (-a0))).bind fun t172 => (some t172))
theorem moultref1_Decimal.mono : ∀ a0 k, LeO (moultref1_Decimal.f k a0) (moultref1_Decimal.f (k + 1) a0) := by
 intro a0 k
 unfold moultref1_Decimal.f
 repeat' first
   | (with_reducible exact moultref1_digits.mono _ _)
   | (with_reducible exact LeO.refl _)
   | (with_reducible exact LeO.none _)
   | (with_reducible refine LeO.ite ?_ ?_)
   | (with_reducible refine LeO.bind ?_ (fun _ => ?_))
   | exact moultref1_digits.mono _ _
   | exact LeO.none _
   | refine LeO.ite ?_ ?_
   | refine LeO.bind ?_ (fun _ => ?_)
set_option maxHeartbeats 8000000 in
set_option maxRecDepth 100000 in
theorem moultref1_Decimal.calls (k : Nat) (a0 : Int) (r : ByteArray) (w : World) (h : moultref1_Decimal.f k a0 = some r) :
  Calls Tryd.prog 26 #[.int .i64 a0] w fun e w' => e = .returned (.string r) ∧ Below w.heap.size w w' := by
 have HB := Aside0.mk (Below.refl w.heap.size w)
 have H : (if a0 < 0 then ((moultref1_digits.f k a0).bind fun t171 => (if 1 + t171.size ≤ 9223372036854775807 then (some ((⟨#[45]⟩ : ByteArray) ++ t171)) else (none))) else ((moultref1_digits.f k (wrap64 (-a0))).bind fun t172 => (some t172))) = some r := h
 clear h
 by_cases c2 : a0 < 0
 ·rw [if_pos c2] at H
  have c2b0 : decide (a0 < 0) = true := decide_eq_true c2
  clear c2
  replace H := Option.bind_eq_some_iff.mp H
  obtain ⟨t171, A30, H⟩ := H
  replace H : (if 1 + t171.size ≤ 9223372036854775807 then (some ((⟨#[45]⟩ : ByteArray) ++ t171)) else (none)) = some r := H
  have A3 := Aside0.mk A30
  clear A30
  by_cases c4 : 1 + t171.size ≤ 9223372036854775807
  ·rw [if_pos c4] at H
   have c4b0 := eq_true c4
   have c4b1 : decide (1 + t171.size ≤ 9223372036854775807) = true := decide_eq_true c4
   try have c4b2 : (9223372036854775807 < 1 + t171.size) = False := eq_false (Nat.not_lt.2 c4)
   obtain rfl := Option.some.inj H
   go_enter Tryd.func26, Tryd.ntmps26
   go_wp2_with (first | ((with_reducible refine gate_callee (f := 38) rfl ?_); refine goesL_ (some 6) rfl rfl Tryd.func38 (by kernel_rfl) rfl #[.int .i64 a0] rfl (by (try simp only [List.map_toArray, List.map_cons, List.map_nil]); first | done | rfl | (simp only [List.length_drop, List.length_take]; rfl)) ?_; (with_reducible refine (moultref1_digits.calls k a0 t171 _ A3.out).mono ?_); rintro e w5 ⟨rfl, hb⟩; refine ⟨_, rfl, ?_⟩; have n0_ := Aside0.mk (below_step (by repeat (first | (with_reducible first | exact HB.out | apply below_alloc | apply pw_below_drewN | apply below_drew1) | exact HB.out)) hb); clear HB; have HB := n0_; clear n0_; (try clear hb); (try clear hb2); (try clear hk); (try clear hi)))
   go_ret
   exact ⟨by first | rfl | (simp [errW_none, errW_some] <;> rfl) | (simp [*, errW_none, errW_some] <;> rfl), by repeat (first | (with_reducible first | exact HB.out | apply below_alloc | apply pw_below_drewN | apply below_drew1) | exact HB.out)⟩
  ·rw [if_neg c4] at H
   exact absurd H (by simp)
 ·rw [if_neg c2] at H
  have c2b0 : decide (a0 < 0) = false := decide_eq_false c2
  clear c2
  replace H := Option.bind_eq_some_iff.mp H
  obtain ⟨t172, A60, H⟩ := H
  replace H : (some t172) = some r := H
  have A6 := Aside0.mk A60
  clear A60
  obtain rfl := Option.some.inj H
  go_enter Tryd.func26, Tryd.ntmps26
  go_wp2_with (first | ((with_reducible refine gate_callee (f := 38) rfl ?_); refine goesL_ (some 10) rfl rfl Tryd.func38 (by kernel_rfl) rfl #[.int .i64 (wrap64 (-a0))] rfl (by (try simp only [List.map_toArray, List.map_cons, List.map_nil]); first | done | rfl | (simp only [List.length_drop, List.length_take]; rfl)) ?_; (with_reducible refine (moultref1_digits.calls k (wrap64 (-a0)) t172 _ A6.out).mono ?_); rintro e w7 ⟨rfl, hb⟩; refine ⟨_, rfl, ?_⟩; have n0_ := Aside0.mk (below_step (by repeat (first | (with_reducible first | exact HB.out | apply below_alloc | apply pw_below_drewN | apply below_drew1) | exact HB.out)) hb); clear HB; have HB := n0_; clear n0_; (try clear hb); (try clear hb2); (try clear hk); (try clear hi)))
  go_ret
  exact ⟨by first | rfl | (simp [errW_none, errW_some] <;> rfl) | (simp [*, errW_none, errW_some] <;> rfl), by repeat (first | (with_reducible first | exact HB.out | apply below_alloc | apply pw_below_drewN | apply below_drew1) | exact HB.out)⟩

end Go.Proofs.YtnedhbnbhedgeaaDoor.PAll
