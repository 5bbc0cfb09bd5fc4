-- Laid by ownprint.py (a program of the session, in wip/tools), out of the translation: Lean checks it.
import Derived.Test.YtcabpbjghiobpaaPAllx0
import Derived.Test.YtcabpbjghiobpaaPAllx7
import Derived.Test.YtcabpbjghiobpaaPAllx9
import Derived.Test.YtcabpbjghiobpaaPAllx11
namespace Go.Proofs.Ytcabpbjghiobpaa.PAll
open Go.RowKit Go.Proofs.YtcabpbjghiobpaaW.PrintWords Go.Proofs.YtcabpbjghiobpaaW.PrintLast Go.Proofs.YtcabpbjghiobpaaW.PrintMore
attribute [local go_sem] max2_int min2_int max_two min_two max_three min_three max_four min_four   -- for this text's walks alone
set_option linter.unusedVariables false
set_option linter.unusedSimpArgs false

/-! ### moultlaw2_LatticeKeeps: function 8 -/
mutual
def moultlaw2_LatticeKeeps.j0 : Nat → Int → Bool → Bool → Int → Int → ByteArray → Int → Int → ByteArray → Option (Bool)
  | 0, _, _, _, _, _, _, _, _, _ => none
  | k + 1, x2, x7, x33, x239000, x239001, x239002, x240000, x240001, x240002 => if x33 = true then (some x7) else ((lattice_Widen.f k x239000 x239001 x239002 x2).bind fun bt241 => ((lattice_Widen.f k x240000 x240001 x240002 x2).bind fun bt246 => (if bt241.2.2.2 = 0 then (moultlaw2_LatticeKeeps.j1 k (bt246.2.2.2 != 0) x239000 x239001 x239002 x240000 x240001 x240002 bt241.1 bt241.2.1 bt241.2.2.1 bt246.1 bt246.2.1 bt246.2.2.1) else (moultlaw2_LatticeKeeps.j1 k true x239000 x239001 x239002 x240000 x240001 x240002 bt241.1 bt241.2.1 bt241.2.2.1 bt246.1 bt246.2.1 bt246.2.2.1))))
def moultlaw2_LatticeKeeps.j1 : Nat → Bool → Int → Int → ByteArray → Int → Int → ByteArray → Int → Int → ByteArray → Int → Int → ByteArray → Option (Bool)
  | 0, _, _, _, _, _, _, _, _, _, _, _, _, _ => none
  | k + 1, x52, x239000, x239001, x239002, x240000, x240001, x240002, x246000, x246001, x246002, x251000, x251001, x251002 => if x52 = true then (some true) else ((moultref1_Compare.f k x246000 x246001 x246002 x251000 x251001 x251002).bind fun t251 => ((moultref1_Compare.f k x239000 x239001 x239002 x240000 x240001 x240002).bind fun t252 => (some (t251 == t252))))
end
def moultlaw2_LatticeKeeps.f (k : Nat) (a0_0 : Int) (a0_1 : Int) (a0_2 : ByteArray) (a1_0 : Int) (a1_1 : Int) (a1_2 : ByteArray) (a2 : Int) : Option (Bool) := (moultlaw2_shown.f k).bind fun t240 => (if t240 = true then (if (a0_2.size : Int) > 3000 then (moultlaw2_LatticeKeeps.j0 k a2 t240 true a0_0 a0_1 a0_2 a1_0 a1_1 a1_2) else (if (a1_2.size : Int) > 3000 then (moultlaw2_LatticeKeeps.j0 k a2 t240 true a0_0 a0_1 a0_2 a1_0 a1_1 a1_2) else (moultlaw2_LatticeKeeps.j0 k a2 t240 (a0_0 != a1_0) a0_0 a0_1 a0_2 a1_0 a1_1 a1_2))) else (moultlaw2_LatticeKeeps.j0 k a2 t240 true a0_0 a0_1 a0_2 a1_0 a1_1 a1_2))
theorem moultlaw2_LatticeKeeps.mono_l : ∀ k, (∀ y0 y1 y2 y3 y4 y5 y6 y7 y8, LeO (moultlaw2_LatticeKeeps.j0 k y0 y1 y2 y3 y4 y5 y6 y7 y8) (moultlaw2_LatticeKeeps.j0 (k + 1) y0 y1 y2 y3 y4 y5 y6 y7 y8)) ∧ (∀ y0 y1 y2 y3 y4 y5 y6 y7 y8 y9 y10 y11 y12, LeO (moultlaw2_LatticeKeeps.j1 k y0 y1 y2 y3 y4 y5 y6 y7 y8 y9 y10 y11 y12) (moultlaw2_LatticeKeeps.j1 (k + 1) y0 y1 y2 y3 y4 y5 y6 y7 y8 y9 y10 y11 y12))
  | 0 => ⟨fun _ _ _ _ _ _ _ _ _ r h => by simp [moultlaw2_LatticeKeeps.j0] at h, fun _ _ _ _ _ _ _ _ _ _ _ _ _ r h => by simp [moultlaw2_LatticeKeeps.j1] at h⟩
  | k + 1 => by
    obtain ⟨ih0, ih1⟩ := moultlaw2_LatticeKeeps.mono_l k
    refine ⟨?_, ?_⟩
    · intro y0 y1 y2 y3 y4 y5 y6 y7 y8
      unfold moultlaw2_LatticeKeeps.j0
      repeat' first
      | (with_reducible exact ih0 _ _ _ _ _ _ _ _ _)
      | (with_reducible exact ih1 _ _ _ _ _ _ _ _ _ _ _ _ _)
      | (with_reducible exact lattice_Widen.mono _ _ _ _ _)
      | (with_reducible exact moultlaw2_shown.mono _)
      | (with_reducible exact moultref1_Compare.mono _ _ _ _ _ _ _)
      | (with_reducible exact LeO.refl _)
      | (with_reducible exact LeO.none _)
      | (with_reducible refine LeO.ite ?_ ?_)
      | (with_reducible refine LeO.bind ?_ (fun _ => ?_))
      | exact ih0 _ _ _ _ _ _ _ _ _
      | exact ih1 _ _ _ _ _ _ _ _ _ _ _ _ _
      | exact lattice_Widen.mono _ _ _ _ _
      | exact moultlaw2_shown.mono _
      | exact moultref1_Compare.mono _ _ _ _ _ _ _
      | exact LeO.none _
      | refine LeO.ite ?_ ?_
      | refine LeO.bind ?_ (fun _ => ?_)
    · intro y0 y1 y2 y3 y4 y5 y6 y7 y8 y9 y10 y11 y12
      unfold moultlaw2_LatticeKeeps.j1
      repeat' first
      | (with_reducible exact ih0 _ _ _ _ _ _ _ _ _)
      | (with_reducible exact ih1 _ _ _ _ _ _ _ _ _ _ _ _ _)
      | (with_reducible exact lattice_Widen.mono _ _ _ _ _)
      | (with_reducible exact moultlaw2_shown.mono _)
      | (with_reducible exact moultref1_Compare.mono _ _ _ _ _ _ _)
      | (with_reducible exact LeO.refl _)
      | (with_reducible exact LeO.none _)
      | (with_reducible refine LeO.ite ?_ ?_)
      | (with_reducible refine LeO.bind ?_ (fun _ => ?_))
      | exact ih0 _ _ _ _ _ _ _ _ _
      | exact ih1 _ _ _ _ _ _ _ _ _ _ _ _ _
      | exact lattice_Widen.mono _ _ _ _ _
      | exact moultlaw2_shown.mono _
      | exact moultref1_Compare.mono _ _ _ _ _ _ _
      | exact LeO.none _
      | refine LeO.ite ?_ ?_
      | refine LeO.bind ?_ (fun _ => ?_)
theorem moultlaw2_LatticeKeeps.mono : ∀ a0 a1 a2 a3 a4 a5 a6 k, LeO (moultlaw2_LatticeKeeps.f k a0 a1 a2 a3 a4 a5 a6) (moultlaw2_LatticeKeeps.f (k + 1) a0 a1 a2 a3 a4 a5 a6) := by
  intro a0 a1 a2 a3 a4 a5 a6 k
  obtain ⟨ih0, ih1⟩ := moultlaw2_LatticeKeeps.mono_l k
  unfold moultlaw2_LatticeKeeps.f
  repeat' first
      | (with_reducible exact ih0 _ _ _ _ _ _ _ _ _)
      | (with_reducible exact ih1 _ _ _ _ _ _ _ _ _ _ _ _ _)
      | (with_reducible exact lattice_Widen.mono _ _ _ _ _)
      | (with_reducible exact moultlaw2_shown.mono _)
      | (with_reducible exact moultref1_Compare.mono _ _ _ _ _ _ _)
      | (with_reducible exact LeO.refl _)
      | (with_reducible exact LeO.none _)
      | (with_reducible refine LeO.ite ?_ ?_)
      | (with_reducible refine LeO.bind ?_ (fun _ => ?_))
      | exact ih0 _ _ _ _ _ _ _ _ _
      | exact ih1 _ _ _ _ _ _ _ _ _ _ _ _ _
      | exact lattice_Widen.mono _ _ _ _ _
      | exact moultlaw2_shown.mono _
      | exact moultref1_Compare.mono _ _ _ _ _ _ _
      | exact LeO.none _
      | refine LeO.ite ?_ ?_
      | refine LeO.bind ?_ (fun _ => ?_)
def moultlaw2_LatticeKeeps.T8 : Bool × List (List Nat × List Nat) := (true, [([], []), ([], []), ([0, 1], [0, 1]), ([], []), ([], []), ([3, 4, 2], [3, 4]), ([2, 5], [2, 5]), ([6, 5, 0, 1, 2, 3, 4, 5, 6], [6])])
def moultlaw2_LatticeKeeps.B8 : List Nat := [0, 0, 3, 0, 0, 31, 63, 127]
theorem moultlaw2_LatticeKeeps.tab8 : rtab .any (opsOf Try.f8 8) = moultlaw2_LatticeKeeps.T8 := by kernel_rfl
theorem moultlaw2_LatticeKeeps.bits8 : waitsOk moultlaw2_LatticeKeeps.T8.2 moultlaw2_LatticeKeeps.B8 = true := by kernel_rfl
set_option maxHeartbeats 8000000 in
set_option maxRecDepth 100000 in
theorem moultlaw2_LatticeKeeps.calls (k : Nat) (a0_0 : Int) (a0_1 : Int) (a0_2 : ByteArray) (a1_0 : Int) (a1_1 : Int) (a1_2 : ByteArray) (a2 : Int) (r : Bool) (w : World) (h : moultlaw2_LatticeKeeps.f k a0_0 a0_1 a0_2 a1_0 a1_1 a1_2 a2 = some r) :
    Calls Try.prog 8 #[.agg #[.int .i64 a0_0, .int .i64 a0_1, .string a0_2], .agg #[.int .i64 a1_0, .int .i64 a1_1, .string a1_2], .int .i64 a2] w fun e w' => e = .returned (.bool r) ∧ Below w.heap.size w w' := by
  have hu30 := Try.underlying30
  have HB := Aside0.mk (Below.refl w.heap.size w)
  have H : ((moultlaw2_shown.f k).bind fun t240 => (if t240 = true then (if (a0_2.size : Int) > 3000 then (moultlaw2_LatticeKeeps.j0 k a2 t240 true a0_0 a0_1 a0_2 a1_0 a1_1 a1_2) else (if (a1_2.size : Int) > 3000 then (moultlaw2_LatticeKeeps.j0 k a2 t240 true a0_0 a0_1 a0_2 a1_0 a1_1 a1_2) else (moultlaw2_LatticeKeeps.j0 k a2 t240 (a0_0 != a1_0) a0_0 a0_1 a0_2 a1_0 a1_1 a1_2))) else (moultlaw2_LatticeKeeps.j0 k a2 t240 true a0_0 a0_1 a0_2 a1_0 a1_1 a1_2))) = some r := h
  clear h
  replace H := Option.bind_eq_some_iff.mp H
  obtain ⟨t240, A40, H⟩ := H
  replace H : (if t240 = true then (if (a0_2.size : Int) > 3000 then (moultlaw2_LatticeKeeps.j0 k a2 t240 true a0_0 a0_1 a0_2 a1_0 a1_1 a1_2) else (if (a1_2.size : Int) > 3000 then (moultlaw2_LatticeKeeps.j0 k a2 t240 true a0_0 a0_1 a0_2 a1_0 a1_1 a1_2) else (moultlaw2_LatticeKeeps.j0 k a2 t240 (a0_0 != a1_0) a0_0 a0_1 a0_2 a1_0 a1_1 a1_2))) else (moultlaw2_LatticeKeeps.j0 k a2 t240 true a0_0 a0_1 a0_2 a1_0 a1_1 a1_2)) = some r := H
  have A4 := Aside0.mk A40
  clear A40
  have HC5 := Aside0.mk H
  clear H
  go_enter Try.func8, Try.ntmps8
  go_upto_region 2 with (first | ((with_reducible refine gate_dst (N := 3) rfl ?_); (try (refine gate_guard (by rfl) ?_; dsimp only)); refine box_event ?hg (N := 3) ?hd (cs := #[.int .i64 a0_0, .int .i64 a0_1, .string a0_2]) (t := 30) ?hr ?_; (case hd => rfl); (case hg => rfl); (case hr => first | (go_simp; done) | (go_simp; rfl)); intro gb238 hg w6 hbox hb; have n0_ := Aside0.mk (below_step (by repeat (first | (with_reducible first | exact HB.out | apply below_alloc | apply pw_below_drewN | apply below_drew1) | exact HB.out)) hb); have n1_ := Aside0.mk (hbox); have n2_ := Aside0.mk ((by rw [hg]; exact (below_size (by repeat (first | (with_reducible first | exact HB.out | apply below_alloc | apply pw_below_drewN | apply below_drew1) | exact HB.out))) : w.heap.size ≤ gb238)); have n3_ := Aside0.mk ((by rw [hg]; exact (below_size (by repeat (first | (with_reducible first | exact HB.out | apply below_alloc | apply pw_below_drewN | apply below_drew1) | exact HB.out))) : w.heap.size ≤ gb238)); clear HB; have HB := n0_; have BK238 := n1_; have GW238 := n2_; have GE238 := n3_; clear n0_ n1_ n2_ n3_; clear hb hbox hg) | ((with_reducible refine gate_dst (N := 4) rfl ?_); (try (refine gate_guard (by rfl) ?_; dsimp only)); refine box_event ?hg (N := 4) ?hd (cs := #[.int .i64 a1_0, .int .i64 a1_1, .string a1_2]) (t := 30) ?hr ?_; (case hd => rfl); (case hg => rfl); (case hr => first | (go_simp; done) | (go_simp; rfl)); intro gb239 hg w7 hbox hb; have n0_ := Aside0.mk (blk_below (g := gb238) (o := .cells #[.int .i64 a0_0, .int .i64 a0_1, .string a0_2] 30 (0, 0)) (by (with_reducible repeat (first | refine blk_drewN ?_ _ | refine blk_drew ?_ | refine blk_alloc ?_ _)); exact BK238.out) hb); have n1_ := Aside0.mk (below_step (by repeat (first | (with_reducible first | exact HB.out | apply below_alloc | apply pw_below_drewN | apply below_drew1 | refine below_set ?_ GE238.out) | exact HB.out)) hb); have n2_ := Aside0.mk (hbox); have n3_ := Aside0.mk ((by rw [hg]; exact (below_size (by repeat (first | (with_reducible first | exact HB.out | apply below_alloc | apply pw_below_drewN | apply below_drew1 | refine below_set ?_ GE238.out) | exact HB.out))) : w.heap.size ≤ gb239)); have n4_ := Aside0.mk ((by rw [hg]; exact (below_size (by repeat (first | (with_reducible first | exact HB.out | apply below_alloc | apply pw_below_drewN | apply below_drew1 | refine below_set ?_ GE238.out) | exact HB.out))) : w.heap.size ≤ gb239)); have n5_ := Aside0.mk ((by rw [hg]; exact Nat.ne_of_lt (blk_lt (g := gb238) (o := .cells #[.int .i64 a0_0, .int .i64 a0_1, .string a0_2] 30 (0, 0)) (by (with_reducible repeat (first | refine blk_drewN ?_ _ | refine blk_drew ?_ | refine blk_alloc ?_ _)); exact BK238.out)) : gb238 ≠ gb239)); have n6_ := Aside0.mk ((by rw [hg]; exact Nat.ne_of_gt (blk_lt (g := gb238) (o := .cells #[.int .i64 a0_0, .int .i64 a0_1, .string a0_2] 30 (0, 0)) (by (with_reducible repeat (first | refine blk_drewN ?_ _ | refine blk_drew ?_ | refine blk_alloc ?_ _)); exact BK238.out)) : gb239 ≠ gb238)); clear BK238; clear HB; have BK238 := n0_; have HB := n1_; have BK239 := n2_; have GW239 := n3_; have GE239 := n4_; have NB238_239 := n5_; have NB239_238 := n6_; clear n0_ n1_ n2_ n3_ n4_ n5_ n6_; clear hb hbox hg) | ((with_reducible refine gate_callee (f := 10) rfl ?_); refine goesL_ (some 12) rfl rfl Try.func10 (by kernel_rfl) rfl #[] rfl (by (try simp only [List.map_toArray, List.map_cons, List.map_nil]); first | done | rfl | (simp only [List.length_drop, List.length_take]; rfl)) ?_; (with_reducible refine (moultlaw2_shown.calls k  t240 _ A4.out).mono ?_); rintro e w8 ⟨rfl, hb⟩; refine ⟨_, rfl, ?_⟩; have n0_ := Aside0.mk (blk_below (g := gb238) (o := .cells #[.int .i64 a0_0, .int .i64 a0_1, .string a0_2] 30 (0, 0)) (by (with_reducible repeat (first | refine blk_drewN ?_ _ | refine blk_drew ?_ | refine blk_alloc ?_ _)); exact BK238.out) hb); have n1_ := Aside0.mk (blk_below (g := gb239) (o := .cells #[.int .i64 a1_0, .int .i64 a1_1, .string a1_2] 30 (0, 0)) (by (with_reducible repeat (first | refine blk_drewN ?_ _ | refine blk_drew ?_ | refine blk_alloc ?_ _)); exact BK239.out) hb); have n2_ := Aside0.mk (below_step (by repeat (first | (with_reducible first | exact HB.out | apply below_alloc | apply pw_below_drewN | apply below_drew1 | refine below_set ?_ GE238.out | refine below_set ?_ GE239.out) | exact HB.out)) hb); clear BK238; clear BK239; clear HB; have BK238 := n0_; have BK239 := n1_; have HB := n2_; clear n0_ n1_ n2_; (try clear hb); (try clear hb2); (try clear hk); (try clear hi)))
  (try simp only [Act.put, List.setIfInBounds_toArray, List.set_cons_zero, List.set_cons_succ])
  go_cut [33] (fun v33 wc => ∃ (kq : Nat) (x33_4 : Bool), v33 = .bool x33_4 ∧ Aside0 (moultlaw2_LatticeKeeps.j0 kq a2 t240 x33_4 a0_0 a0_1 a0_2 a1_0 a1_1 a1_2 = some r) ∧ Aside0 (kq ≤ k) ∧ Aside0 (wc.heap[gb238]? = some (.cells #[.int .i64 a0_0, .int .i64 a0_1, .string a0_2] 30 (0, 0))) ∧ Aside0 (wc.heap[gb239]? = some (.cells #[.int .i64 a1_0, .int .i64 a1_1, .string a1_2] 30 (0, 0))) ∧ Aside0 (Below w.heap.size w wc))
  case first =>
    have H := HC5.out
    clear HC5
    by_cases c9 : t240 = true
    · subst c9
      have H1 : (if (a0_2.size : Int) > 3000 then (moultlaw2_LatticeKeeps.j0 k a2 true true a0_0 a0_1 a0_2 a1_0 a1_1 a1_2) else (if (a1_2.size : Int) > 3000 then (moultlaw2_LatticeKeeps.j0 k a2 true true a0_0 a0_1 a0_2 a1_0 a1_1 a1_2) else (moultlaw2_LatticeKeeps.j0 k a2 true (a0_0 != a1_0) a0_0 a0_1 a0_2 a1_0 a1_1 a1_2))) = some r := by rw [if_pos rfl] at H; exact H
      clear H
      have H := H1
      clear H1
      by_cases c10 : (a0_2.size : Int) > 3000
      · rw [if_pos c10] at H
        have c10b0 : decide (3000 < (a0_2.size : Int)) = true := decide_eq_true c10
        have c10b1 : decide (3000 < a0_2.size) = true := decide_eq_true (by omega)
        clear c10
        (first | rw [c10b0] | (simp only [i64_w, i32_w]; rw [c10b0]) | skip)
        have H' := Aside0.mk H
        clear H
        have hnb11 := NB238_239.out
        have hnc11 := NB239_238.out
        have hcz12_0 : w8.cell? ⟨gb238, 0, none⟩ = some (.int .i64 a0_0) := (blk_cell BK238.out 0).trans rfl
        have hcz12_1 : w8.cell? ⟨gb238, 1, none⟩ = some (.int .i64 a0_1) := (blk_cell BK238.out 1).trans rfl
        have hcz12_2 : w8.cell? ⟨gb238, 2, none⟩ = some (.string a0_2) := (blk_cell BK238.out 2).trans rfl
        have hfz12_0 := blk_frozen BK238.out 0
        have hfz12_1 := blk_frozen BK238.out 1
        have hfz12_2 := blk_frozen BK238.out 2
        go_wp2
        go_meet
        case rel => exact ⟨_, (true), (by first | rfl | (simp; done) | (simp [*]; done)), H', ⟨by first | omega | exact Nat.le_refl _⟩, ⟨by (with_reducible repeat (first | refine blk_drewN ?_ _ | refine blk_drew ?_ | refine blk_alloc ?_ _)); exact BK238.out⟩, ⟨by (with_reducible repeat (first | refine blk_drewN ?_ _ | refine blk_drew ?_ | refine blk_alloc ?_ _)); exact BK239.out⟩, ⟨by repeat (first | (with_reducible first | exact HB.out | apply below_alloc | apply pw_below_drewN | apply below_drew1 | refine below_set ?_ GE238.out | refine below_set ?_ GE239.out) | exact HB.out)⟩⟩
      · rw [if_neg c10] at H
        have c10b0 : decide (3000 < (a0_2.size : Int)) = false := decide_eq_false c10
        have c10b1 : decide (3000 < a0_2.size) = false := decide_eq_false (by omega)
        clear c10
        (first | rw [c10b0] | (simp only [i64_w, i32_w]; rw [c10b0]) | skip)
        by_cases c13 : (a1_2.size : Int) > 3000
        · rw [if_pos c13] at H
          have c13b0 : decide (3000 < (a1_2.size : Int)) = true := decide_eq_true c13
          have c13b1 : decide (3000 < a1_2.size) = true := decide_eq_true (by omega)
          clear c13
          have H' := Aside0.mk H
          clear H
          have hnb14 := NB238_239.out
          have hnc14 := NB239_238.out
          have hcz15_0 : w8.cell? ⟨gb238, 0, none⟩ = some (.int .i64 a0_0) := (blk_cell BK238.out 0).trans rfl
          have hcz15_1 : w8.cell? ⟨gb238, 1, none⟩ = some (.int .i64 a0_1) := (blk_cell BK238.out 1).trans rfl
          have hcz15_2 : w8.cell? ⟨gb238, 2, none⟩ = some (.string a0_2) := (blk_cell BK238.out 2).trans rfl
          have hfz15_0 := blk_frozen BK238.out 0
          have hfz15_1 := blk_frozen BK238.out 1
          have hfz15_2 := blk_frozen BK238.out 2
          have hcz16_0 : w8.cell? ⟨gb239, 0, none⟩ = some (.int .i64 a1_0) := (blk_cell BK239.out 0).trans rfl
          have hcz16_1 : w8.cell? ⟨gb239, 1, none⟩ = some (.int .i64 a1_1) := (blk_cell BK239.out 1).trans rfl
          have hcz16_2 : w8.cell? ⟨gb239, 2, none⟩ = some (.string a1_2) := (blk_cell BK239.out 2).trans rfl
          have hfz16_0 := blk_frozen BK239.out 0
          have hfz16_1 := blk_frozen BK239.out 1
          have hfz16_2 := blk_frozen BK239.out 2
          go_wp2
          go_meet
          case rel => exact ⟨_, (true), (by first | rfl | (simp; done) | (simp [*]; done)), H', ⟨by first | omega | exact Nat.le_refl _⟩, ⟨by (with_reducible repeat (first | refine blk_drewN ?_ _ | refine blk_drew ?_ | refine blk_alloc ?_ _)); exact BK238.out⟩, ⟨by (with_reducible repeat (first | refine blk_drewN ?_ _ | refine blk_drew ?_ | refine blk_alloc ?_ _)); exact BK239.out⟩, ⟨by repeat (first | (with_reducible first | exact HB.out | apply below_alloc | apply pw_below_drewN | apply below_drew1 | refine below_set ?_ GE238.out | refine below_set ?_ GE239.out) | exact HB.out)⟩⟩
        · rw [if_neg c13] at H
          have c13b0 : decide (3000 < (a1_2.size : Int)) = false := decide_eq_false c13
          have c13b1 : decide (3000 < a1_2.size) = false := decide_eq_false (by omega)
          clear c13
          have H' := Aside0.mk H
          clear H
          have hnb17 := NB238_239.out
          have hnc17 := NB239_238.out
          have hcz18_0 : w8.cell? ⟨gb238, 0, none⟩ = some (.int .i64 a0_0) := (blk_cell BK238.out 0).trans rfl
          have hcz18_1 : w8.cell? ⟨gb238, 1, none⟩ = some (.int .i64 a0_1) := (blk_cell BK238.out 1).trans rfl
          have hcz18_2 : w8.cell? ⟨gb238, 2, none⟩ = some (.string a0_2) := (blk_cell BK238.out 2).trans rfl
          have hfz18_0 := blk_frozen BK238.out 0
          have hfz18_1 := blk_frozen BK238.out 1
          have hfz18_2 := blk_frozen BK238.out 2
          have hcz19_0 : w8.cell? ⟨gb239, 0, none⟩ = some (.int .i64 a1_0) := (blk_cell BK239.out 0).trans rfl
          have hcz19_1 : w8.cell? ⟨gb239, 1, none⟩ = some (.int .i64 a1_1) := (blk_cell BK239.out 1).trans rfl
          have hcz19_2 : w8.cell? ⟨gb239, 2, none⟩ = some (.string a1_2) := (blk_cell BK239.out 2).trans rfl
          have hfz19_0 := blk_frozen BK239.out 0
          have hfz19_1 := blk_frozen BK239.out 1
          have hfz19_2 := blk_frozen BK239.out 2
          go_wp2
          go_meet
          case rel => exact ⟨_, ((a0_0 != a1_0)), (by first | rfl | (simp; done) | (simp [*]; done)), H', ⟨by first | omega | exact Nat.le_refl _⟩, ⟨by (with_reducible repeat (first | refine blk_drewN ?_ _ | refine blk_drew ?_ | refine blk_alloc ?_ _)); exact BK238.out⟩, ⟨by (with_reducible repeat (first | refine blk_drewN ?_ _ | refine blk_drew ?_ | refine blk_alloc ?_ _)); exact BK239.out⟩, ⟨by repeat (first | (with_reducible first | exact HB.out | apply below_alloc | apply pw_below_drewN | apply below_drew1 | refine below_set ?_ GE238.out | refine below_set ?_ GE239.out) | exact HB.out)⟩⟩
    · replace c9 := Bool.eq_false_iff.mpr c9
      subst c9
      have H1 : (moultlaw2_LatticeKeeps.j0 k a2 false true a0_0 a0_1 a0_2 a1_0 a1_1 a1_2) = some r := by rw [if_neg (show ¬ (false = true) by decide)] at H; exact H
      clear H
      have H := H1
      clear H1
      have H' := Aside0.mk H
      clear H
      go_wp2
      go_meet
      case rel => exact ⟨_, (true), (by first | rfl | (simp; done) | (simp [*]; done)), H', ⟨by first | omega | exact Nat.le_refl _⟩, ⟨by (with_reducible repeat (first | refine blk_drewN ?_ _ | refine blk_drew ?_ | refine blk_alloc ?_ _)); exact BK238.out⟩, ⟨by (with_reducible repeat (first | refine blk_drewN ?_ _ | refine blk_drew ?_ | refine blk_alloc ?_ _)); exact BK239.out⟩, ⟨by repeat (first | (with_reducible first | exact HB.out | apply below_alloc | apply pw_below_drewN | apply below_drew1 | refine below_set ?_ GE238.out | refine below_set ?_ GE239.out) | exact HB.out)⟩⟩
  case rest =>
    clear HC5
    try clear c1
    try clear p2
    try clear c8
    try clear c9
    try clear c10
    try clear c10b0
    try clear c10b1
    try clear c11
    try clear c13
    try clear c13b0
    try clear c13b1
    try clear c14
    try clear c17
    try clear hcz12_0
    try clear hcz12_1
    try clear hcz12_2
    try clear hcz15_0
    try clear hcz15_1
    try clear hcz15_2
    try clear hcz16_0
    try clear hcz16_1
    try clear hcz16_2
    try clear hcz18_0
    try clear hcz18_1
    try clear hcz18_2
    try clear hcz19_0
    try clear hcz19_1
    try clear hcz19_2
    try clear hfz12_0
    try clear hfz12_1
    try clear hfz12_2
    try clear hfz15_0
    try clear hfz15_1
    try clear hfz15_2
    try clear hfz16_0
    try clear hfz16_1
    try clear hfz16_2
    try clear hfz18_0
    try clear hfz18_1
    try clear hfz18_2
    try clear hfz19_0
    try clear hfz19_1
    try clear hfz19_2
    obtain ⟨kq, x33_4, rfl, HA, HJ4, BK238, BK239, HB⟩ := hcut
    cases kq with
    | zero => exact absurd HA.out (by simp [moultlaw2_LatticeKeeps.j0])
    | succ kj4 =>
      have H := HA.out
      clear HA
      simp only [moultlaw2_LatticeKeeps.j0] at H
      by_cases c20 : x33_4 = true
      · subst c20
        have H1 : (some t240) = some r := by rw [if_pos rfl] at H; exact H
        clear H
        have H := H1
        clear H1
        obtain rfl := Option.some.inj H
        go_wp2
        go_ret
        exact ⟨by first | rfl | (simp [errW_none, errW_some] <;> rfl) | (simp [*, errW_none, errW_some] <;> rfl), by repeat (first | (with_reducible first | exact HB.out | apply below_alloc | apply pw_below_drewN | apply below_drew1 | refine below_set ?_ GE238.out | refine below_set ?_ GE239.out) | exact HB.out)⟩
      · replace c20 := Bool.eq_false_iff.mpr c20
        subst c20
        have H1 : ((lattice_Widen.f kj4 a0_0 a0_1 a0_2 a2).bind fun bt241 => ((lattice_Widen.f kj4 a1_0 a1_1 a1_2 a2).bind fun bt246 => (if bt241.2.2.2 = 0 then (moultlaw2_LatticeKeeps.j1 kj4 (bt246.2.2.2 != 0) a0_0 a0_1 a0_2 a1_0 a1_1 a1_2 bt241.1 bt241.2.1 bt241.2.2.1 bt246.1 bt246.2.1 bt246.2.2.1) else (moultlaw2_LatticeKeeps.j1 kj4 true a0_0 a0_1 a0_2 a1_0 a1_1 a1_2 bt241.1 bt241.2.1 bt241.2.2.1 bt246.1 bt246.2.1 bt246.2.2.1)))) = some r := by rw [if_neg (show ¬ (false = true) by decide)] at H; exact H
        clear H
        have H := H1
        clear H1
        replace H := Option.bind_eq_some_iff.mp H
        obtain ⟨⟨t241, t242, t243, t244⟩, A210, H⟩ := H
        replace H : ((lattice_Widen.f kj4 a1_0 a1_1 a1_2 a2).bind fun bt246 => (if t244 = 0 then (moultlaw2_LatticeKeeps.j1 kj4 (bt246.2.2.2 != 0) a0_0 a0_1 a0_2 a1_0 a1_1 a1_2 t241 t242 t243 bt246.1 bt246.2.1 bt246.2.2.1) else (moultlaw2_LatticeKeeps.j1 kj4 true a0_0 a0_1 a0_2 a1_0 a1_1 a1_2 t241 t242 t243 bt246.1 bt246.2.1 bt246.2.2.1))) = some r := H
        have A21 := Aside0.mk A210
        clear A210
        replace H := Option.bind_eq_some_iff.mp H
        obtain ⟨⟨t246, t247, t248, t249⟩, A220, H⟩ := H
        replace H : (if t244 = 0 then (moultlaw2_LatticeKeeps.j1 kj4 (t249 != 0) a0_0 a0_1 a0_2 a1_0 a1_1 a1_2 t241 t242 t243 t246 t247 t248) else (moultlaw2_LatticeKeeps.j1 kj4 true a0_0 a0_1 a0_2 a1_0 a1_1 a1_2 t241 t242 t243 t246 t247 t248)) = some r := H
        have A22 := Aside0.mk A220
        clear A220
        have HC23 := Aside0.mk H
        clear H
        have hnb24 := NB238_239.out
        have hnc24 := NB239_238.out
        have hcz25_0 : wc.cell? ⟨gb238, 0, none⟩ = some (.int .i64 a0_0) := (blk_cell BK238.out 0).trans rfl
        have hcz25_1 : wc.cell? ⟨gb238, 1, none⟩ = some (.int .i64 a0_1) := (blk_cell BK238.out 1).trans rfl
        have hcz25_2 : wc.cell? ⟨gb238, 2, none⟩ = some (.string a0_2) := (blk_cell BK238.out 2).trans rfl
        have hfz25_0 := blk_frozen BK238.out 0
        have hfz25_1 := blk_frozen BK238.out 1
        have hfz25_2 := blk_frozen BK238.out 2
        go_upto_region 6 with (first | ((with_reducible refine gate_callee (f := 20) rfl ?_); refine goesL_ (some 38) rfl rfl Try.func20 (by kernel_rfl) rfl #[.agg #[.int .i64 a0_0, .int .i64 a0_1, .string a0_2], .int .i64 a2] rfl (by (try simp only [List.map_toArray, List.map_cons, List.map_nil]); first | done | rfl | (simp only [List.length_drop, List.length_take]; rfl)) ?_; (with_reducible refine (lattice_Widen.calls kj4 a0_0 a0_1 a0_2 a2 t241 t242 t243 t244 _ A21.out).mono ?_); rintro e w26 ⟨rfl, hb⟩; refine ⟨_, rfl, ?_⟩; have n0_ := Aside0.mk (blk_below (g := gb238) (o := .cells #[.int .i64 a0_0, .int .i64 a0_1, .string a0_2] 30 (0, 0)) (by (with_reducible repeat (first | refine blk_drewN ?_ _ | refine blk_drew ?_ | refine blk_alloc ?_ _)); exact BK238.out) hb); have n1_ := Aside0.mk (blk_below (g := gb239) (o := .cells #[.int .i64 a1_0, .int .i64 a1_1, .string a1_2] 30 (0, 0)) (by (with_reducible repeat (first | refine blk_drewN ?_ _ | refine blk_drew ?_ | refine blk_alloc ?_ _)); exact BK239.out) hb); have n2_ := Aside0.mk (below_step (by repeat (first | (with_reducible first | exact HB.out | apply below_alloc | apply pw_below_drewN | apply below_drew1 | refine below_set ?_ GE238.out | refine below_set ?_ GE239.out) | exact HB.out)) hb); clear BK238; clear BK239; clear HB; have BK238 := n0_; have BK239 := n1_; have HB := n2_; clear n0_ n1_ n2_; (try clear hb); (try clear hb2); (try clear hk); (try clear hi)) | ((with_reducible refine gate_dst (N := 8) rfl ?_); (try (refine gate_guard (by rfl) ?_; dsimp only)); refine box_event ?hg (N := 8) ?hd (cs := #[.int .i64 0, .int .i64 0, .string (⟨#[]⟩ : ByteArray)]) (t := 30) ?hr ?_; (case hd => rfl); (case hg => rfl); (case hr => first | (go_simp; done) | (go_simp; rfl)); intro gb245 hg w27 hbox hb; have n0_ := Aside0.mk (blk_below (g := gb238) (o := .cells #[.int .i64 a0_0, .int .i64 a0_1, .string a0_2] 30 (0, 0)) (by (with_reducible repeat (first | refine blk_drewN ?_ _ | refine blk_drew ?_ | refine blk_alloc ?_ _)); exact BK238.out) hb); have n1_ := Aside0.mk (blk_below (g := gb239) (o := .cells #[.int .i64 a1_0, .int .i64 a1_1, .string a1_2] 30 (0, 0)) (by (with_reducible repeat (first | refine blk_drewN ?_ _ | refine blk_drew ?_ | refine blk_alloc ?_ _)); exact BK239.out) hb); have n2_ := Aside0.mk (below_step (by repeat (first | (with_reducible first | exact HB.out | apply below_alloc | apply pw_below_drewN | apply below_drew1 | refine below_set ?_ GE238.out | refine below_set ?_ GE239.out) | exact HB.out)) hb); have n3_ := Aside0.mk (hbox); have n4_ := Aside0.mk ((by rw [hg]; exact (below_size (by repeat (first | (with_reducible first | exact HB.out | apply below_alloc | apply pw_below_drewN | apply below_drew1 | refine below_set ?_ GE238.out | refine below_set ?_ GE239.out) | exact HB.out))) : w.heap.size ≤ gb245)); have n5_ := Aside0.mk ((by rw [hg]; exact (below_size (by repeat (first | (with_reducible first | exact HB.out | apply below_alloc | apply pw_below_drewN | apply below_drew1 | refine below_set ?_ GE238.out | refine below_set ?_ GE239.out) | exact HB.out))) : w.heap.size ≤ gb245)); have n6_ := Aside0.mk ((by rw [hg]; exact Nat.ne_of_lt (blk_lt (g := gb238) (o := .cells #[.int .i64 a0_0, .int .i64 a0_1, .string a0_2] 30 (0, 0)) (by (with_reducible repeat (first | refine blk_drewN ?_ _ | refine blk_drew ?_ | refine blk_alloc ?_ _)); exact BK238.out)) : gb238 ≠ gb245)); have n7_ := Aside0.mk ((by rw [hg]; exact Nat.ne_of_gt (blk_lt (g := gb238) (o := .cells #[.int .i64 a0_0, .int .i64 a0_1, .string a0_2] 30 (0, 0)) (by (with_reducible repeat (first | refine blk_drewN ?_ _ | refine blk_drew ?_ | refine blk_alloc ?_ _)); exact BK238.out)) : gb245 ≠ gb238)); have n8_ := Aside0.mk ((by rw [hg]; exact Nat.ne_of_lt (blk_lt (g := gb239) (o := .cells #[.int .i64 a1_0, .int .i64 a1_1, .string a1_2] 30 (0, 0)) (by (with_reducible repeat (first | refine blk_drewN ?_ _ | refine blk_drew ?_ | refine blk_alloc ?_ _)); exact BK239.out)) : gb239 ≠ gb245)); have n9_ := Aside0.mk ((by rw [hg]; exact Nat.ne_of_gt (blk_lt (g := gb239) (o := .cells #[.int .i64 a1_0, .int .i64 a1_1, .string a1_2] 30 (0, 0)) (by (with_reducible repeat (first | refine blk_drewN ?_ _ | refine blk_drew ?_ | refine blk_alloc ?_ _)); exact BK239.out)) : gb245 ≠ gb239)); clear BK238; clear BK239; clear HB; have BK238 := n0_; have BK239 := n1_; have HB := n2_; have BK245 := n3_; have GW245 := n4_; have GE245 := n5_; have NB238_245 := n6_; have NB245_238 := n7_; have NB239_245 := n8_; have NB245_239 := n9_; clear n0_ n1_ n2_ n3_ n4_ n5_ n6_ n7_ n8_ n9_; clear hb hbox hg; have hnb28 := NB245_238.out; have hnc28 := NB238_245.out; have hnb29 := NB245_239.out; have hnc29 := NB239_245.out; have hcz30_0 : w27.cell? ⟨gb245, 0, none⟩ = some (.int .i64 0) := (blk_cell BK245.out 0).trans rfl; have hcz30_1 : w27.cell? ⟨gb245, 1, none⟩ = some (.int .i64 0) := (blk_cell BK245.out 1).trans rfl; have hcz30_2 : w27.cell? ⟨gb245, 2, none⟩ = some (.string (⟨#[]⟩ : ByteArray)) := (blk_cell BK245.out 2).trans rfl; have hfz30_0 := blk_frozen BK245.out 0; have hfz30_1 := blk_frozen BK245.out 1; have hfz30_2 := blk_frozen BK245.out 2; have hcz31_0 : w27.cell? ⟨gb239, 0, none⟩ = some (.int .i64 a1_0) := (blk_cell BK239.out 0).trans rfl; have hcz31_1 : w27.cell? ⟨gb239, 1, none⟩ = some (.int .i64 a1_1) := (blk_cell BK239.out 1).trans rfl; have hcz31_2 : w27.cell? ⟨gb239, 2, none⟩ = some (.string a1_2) := (blk_cell BK239.out 2).trans rfl; have hfz31_0 := blk_frozen BK239.out 0; have hfz31_1 := blk_frozen BK239.out 1; have hfz31_2 := blk_frozen BK239.out 2) | ((with_reducible refine gate_callee (f := 20) rfl ?_); refine goesL_ (some 44) rfl rfl Try.func20 (by kernel_rfl) rfl #[.agg #[.int .i64 a1_0, .int .i64 a1_1, .string a1_2], .int .i64 a2] rfl (by (try simp only [List.map_toArray, List.map_cons, List.map_nil]); first | done | rfl | (simp only [List.length_drop, List.length_take]; rfl)) ?_; (with_reducible refine (lattice_Widen.calls kj4 a1_0 a1_1 a1_2 a2 t246 t247 t248 t249 _ A22.out).mono ?_); rintro e w32 ⟨rfl, hb⟩; refine ⟨_, rfl, ?_⟩; have n0_ := Aside0.mk (blk_below (g := gb238) (o := .cells #[.int .i64 a0_0, .int .i64 a0_1, .string a0_2] 30 (0, 0)) (by (with_reducible repeat (first | refine blk_drewN ?_ _ | refine blk_drew ?_ | refine blk_alloc ?_ _)); refine blk_far ?_ NB238_245.out _; (with_reducible repeat (first | refine blk_drewN ?_ _ | refine blk_drew ?_ | refine blk_alloc ?_ _)); refine blk_far ?_ NB238_245.out _; (with_reducible repeat (first | refine blk_drewN ?_ _ | refine blk_drew ?_ | refine blk_alloc ?_ _)); refine blk_far ?_ NB238_245.out _; (with_reducible repeat (first | refine blk_drewN ?_ _ | refine blk_drew ?_ | refine blk_alloc ?_ _)); exact BK238.out) hb); have n1_ := Aside0.mk (blk_below (g := gb239) (o := .cells #[.int .i64 a1_0, .int .i64 a1_1, .string a1_2] 30 (0, 0)) (by (with_reducible repeat (first | refine blk_drewN ?_ _ | refine blk_drew ?_ | refine blk_alloc ?_ _)); refine blk_far ?_ NB239_245.out _; (with_reducible repeat (first | refine blk_drewN ?_ _ | refine blk_drew ?_ | refine blk_alloc ?_ _)); refine blk_far ?_ NB239_245.out _; (with_reducible repeat (first | refine blk_drewN ?_ _ | refine blk_drew ?_ | refine blk_alloc ?_ _)); refine blk_far ?_ NB239_245.out _; (with_reducible repeat (first | refine blk_drewN ?_ _ | refine blk_drew ?_ | refine blk_alloc ?_ _)); exact BK239.out) hb); have n2_ := Aside0.mk (blk_below (g := gb245) (o := .cells #[.int .i64 t241, .int .i64 t242, .string t243] 30 (0, 0)) (by (with_reducible repeat (first | refine blk_drewN ?_ _ | refine blk_drew ?_ | refine blk_alloc ?_ _)); refine blk_put (cs := #[.int .i64 t241, .int .i64 t242, .string (⟨#[]⟩ : ByteArray)]) ?_ 2 _ rfl; (with_reducible repeat (first | refine blk_drewN ?_ _ | refine blk_drew ?_ | refine blk_alloc ?_ _)); refine blk_put (cs := #[.int .i64 t241, .int .i64 0, .string (⟨#[]⟩ : ByteArray)]) ?_ 1 _ rfl; (with_reducible repeat (first | refine blk_drewN ?_ _ | refine blk_drew ?_ | refine blk_alloc ?_ _)); refine blk_put (cs := #[.int .i64 0, .int .i64 0, .string (⟨#[]⟩ : ByteArray)]) ?_ 0 _ rfl; (with_reducible repeat (first | refine blk_drewN ?_ _ | refine blk_drew ?_ | refine blk_alloc ?_ _)); exact BK245.out) hb); have n3_ := Aside0.mk (below_step (by repeat (first | (with_reducible first | exact HB.out | apply below_alloc | apply pw_below_drewN | apply below_drew1 | refine below_set ?_ GE238.out | refine below_set ?_ GE239.out | refine below_set ?_ GE245.out) | exact HB.out)) hb); clear BK238; clear BK239; clear BK245; clear HB; have BK238 := n0_; have BK239 := n1_; have BK245 := n2_; have HB := n3_; clear n0_ n1_ n2_ n3_; (try clear hb); (try clear hb2); (try clear hk); (try clear hi)) | ((with_reducible refine gate_dst (N := 10) rfl ?_); (try (refine gate_guard (by rfl) ?_; dsimp only)); refine box_event ?hg (N := 10) ?hd (cs := #[.int .i64 0, .int .i64 0, .string (⟨#[]⟩ : ByteArray)]) (t := 30) ?hr ?_; (case hd => rfl); (case hg => rfl); (case hr => first | (go_simp; done) | (go_simp; rfl)); intro gb250 hg w33 hbox hb; have n0_ := Aside0.mk (blk_below (g := gb238) (o := .cells #[.int .i64 a0_0, .int .i64 a0_1, .string a0_2] 30 (0, 0)) (by (with_reducible repeat (first | refine blk_drewN ?_ _ | refine blk_drew ?_ | refine blk_alloc ?_ _)); exact BK238.out) hb); have n1_ := Aside0.mk (blk_below (g := gb239) (o := .cells #[.int .i64 a1_0, .int .i64 a1_1, .string a1_2] 30 (0, 0)) (by (with_reducible repeat (first | refine blk_drewN ?_ _ | refine blk_drew ?_ | refine blk_alloc ?_ _)); exact BK239.out) hb); have n2_ := Aside0.mk (blk_below (g := gb245) (o := .cells #[.int .i64 t241, .int .i64 t242, .string t243] 30 (0, 0)) (by (with_reducible repeat (first | refine blk_drewN ?_ _ | refine blk_drew ?_ | refine blk_alloc ?_ _)); exact BK245.out) hb); have n3_ := Aside0.mk (below_step (by repeat (first | (with_reducible first | exact HB.out | apply below_alloc | apply pw_below_drewN | apply below_drew1 | refine below_set ?_ GE238.out | refine below_set ?_ GE239.out | refine below_set ?_ GE245.out) | exact HB.out)) hb); have n4_ := Aside0.mk (hbox); have n5_ := Aside0.mk ((by rw [hg]; exact (below_size (by repeat (first | (with_reducible first | exact HB.out | apply below_alloc | apply pw_below_drewN | apply below_drew1 | refine below_set ?_ GE238.out | refine below_set ?_ GE239.out | refine below_set ?_ GE245.out) | exact HB.out))) : w.heap.size ≤ gb250)); have n6_ := Aside0.mk ((by rw [hg]; exact (below_size (by repeat (first | (with_reducible first | exact HB.out | apply below_alloc | apply pw_below_drewN | apply below_drew1 | refine below_set ?_ GE238.out | refine below_set ?_ GE239.out | refine below_set ?_ GE245.out) | exact HB.out))) : w.heap.size ≤ gb250)); have n7_ := Aside0.mk ((by rw [hg]; exact Nat.ne_of_lt (blk_lt (g := gb238) (o := .cells #[.int .i64 a0_0, .int .i64 a0_1, .string a0_2] 30 (0, 0)) (by (with_reducible repeat (first | refine blk_drewN ?_ _ | refine blk_drew ?_ | refine blk_alloc ?_ _)); exact BK238.out)) : gb238 ≠ gb250)); have n8_ := Aside0.mk ((by rw [hg]; exact Nat.ne_of_gt (blk_lt (g := gb238) (o := .cells #[.int .i64 a0_0, .int .i64 a0_1, .string a0_2] 30 (0, 0)) (by (with_reducible repeat (first | refine blk_drewN ?_ _ | refine blk_drew ?_ | refine blk_alloc ?_ _)); exact BK238.out)) : gb250 ≠ gb238)); have n9_ := Aside0.mk ((by rw [hg]; exact Nat.ne_of_lt (blk_lt (g := gb239) (o := .cells #[.int .i64 a1_0, .int .i64 a1_1, .string a1_2] 30 (0, 0)) (by (with_reducible repeat (first | refine blk_drewN ?_ _ | refine blk_drew ?_ | refine blk_alloc ?_ _)); exact BK239.out)) : gb239 ≠ gb250)); have n10_ := Aside0.mk ((by rw [hg]; exact Nat.ne_of_gt (blk_lt (g := gb239) (o := .cells #[.int .i64 a1_0, .int .i64 a1_1, .string a1_2] 30 (0, 0)) (by (with_reducible repeat (first | refine blk_drewN ?_ _ | refine blk_drew ?_ | refine blk_alloc ?_ _)); exact BK239.out)) : gb250 ≠ gb239)); have n11_ := Aside0.mk ((by rw [hg]; exact Nat.ne_of_lt (blk_lt (g := gb245) (o := .cells #[.int .i64 t241, .int .i64 t242, .string t243] 30 (0, 0)) (by (with_reducible repeat (first | refine blk_drewN ?_ _ | refine blk_drew ?_ | refine blk_alloc ?_ _)); exact BK245.out)) : gb245 ≠ gb250)); have n12_ := Aside0.mk ((by rw [hg]; exact Nat.ne_of_gt (blk_lt (g := gb245) (o := .cells #[.int .i64 t241, .int .i64 t242, .string t243] 30 (0, 0)) (by (with_reducible repeat (first | refine blk_drewN ?_ _ | refine blk_drew ?_ | refine blk_alloc ?_ _)); exact BK245.out)) : gb250 ≠ gb245)); clear BK238; clear BK239; clear BK245; clear HB; have BK238 := n0_; have BK239 := n1_; have BK245 := n2_; have HB := n3_; have BK250 := n4_; have GW250 := n5_; have GE250 := n6_; have NB238_250 := n7_; have NB250_238 := n8_; have NB239_250 := n9_; have NB250_239 := n10_; have NB245_250 := n11_; have NB250_245 := n12_; clear n0_ n1_ n2_ n3_ n4_ n5_ n6_ n7_ n8_ n9_ n10_ n11_ n12_; clear hb hbox hg; have hnb34 := NB250_238.out; have hnc34 := NB238_250.out; have hnb35 := NB250_239.out; have hnc35 := NB239_250.out; have hnb36 := NB250_245.out; have hnc36 := NB245_250.out; have hcz37_0 : w33.cell? ⟨gb250, 0, none⟩ = some (.int .i64 0) := (blk_cell BK250.out 0).trans rfl; have hcz37_1 : w33.cell? ⟨gb250, 1, none⟩ = some (.int .i64 0) := (blk_cell BK250.out 1).trans rfl; have hcz37_2 : w33.cell? ⟨gb250, 2, none⟩ = some (.string (⟨#[]⟩ : ByteArray)) := (blk_cell BK250.out 2).trans rfl; have hfz37_0 := blk_frozen BK250.out 0; have hfz37_1 := blk_frozen BK250.out 1; have hfz37_2 := blk_frozen BK250.out 2))
        (try simp only [Act.put, List.setIfInBounds_toArray, List.set_cons_zero, List.set_cons_succ])
        go_cut [52] (fun v52 wc => ∃ (kq : Nat) (x52_22 : Bool), v52 = .bool x52_22 ∧ Aside0 (moultlaw2_LatticeKeeps.j1 kq x52_22 a0_0 a0_1 a0_2 a1_0 a1_1 a1_2 t241 t242 t243 t246 t247 t248 = some r) ∧ Aside0 (kq ≤ kj4) ∧ Aside0 (wc.heap[gb238]? = some (.cells #[.int .i64 a0_0, .int .i64 a0_1, .string a0_2] 30 (0, 0))) ∧ Aside0 (wc.heap[gb239]? = some (.cells #[.int .i64 a1_0, .int .i64 a1_1, .string a1_2] 30 (0, 0))) ∧ Aside0 (wc.heap[gb245]? = some (.cells #[.int .i64 t241, .int .i64 t242, .string t243] 30 (0, 0))) ∧ Aside0 (wc.heap[gb250]? = some (.cells #[.int .i64 t246, .int .i64 t247, .string t248] 30 (0, 0))) ∧ Aside0 (Below w.heap.size w wc))
        case first =>
          have H := HC23.out
          clear HC23
          by_cases c38 : t244 = 0
          · rw [if_pos c38] at H
            have c38b0 : (t244 == 0) = true := beq_iff_eq.mpr c38
            have c38b1 : (t244 != 0) = false := bne_eq_false_iff_eq.mpr c38
            clear c38
            (first | rw [c38b0] | (simp only [i64_w, i32_w]; rw [c38b0]) | skip)
            have H' := Aside0.mk H
            clear H
            go_wp2
            go_meet
            case rel => exact ⟨_, ((t249 != 0)), (by first | rfl | (simp; done) | (simp [*]; done)), H', ⟨by have := HJ4.out; first | omega | exact Nat.le_refl _⟩, ⟨by (with_reducible repeat (first | refine blk_drewN ?_ _ | refine blk_drew ?_ | refine blk_alloc ?_ _)); refine blk_far ?_ NB238_250.out _; (with_reducible repeat (first | refine blk_drewN ?_ _ | refine blk_drew ?_ | refine blk_alloc ?_ _)); refine blk_far ?_ NB238_250.out _; (with_reducible repeat (first | refine blk_drewN ?_ _ | refine blk_drew ?_ | refine blk_alloc ?_ _)); refine blk_far ?_ NB238_250.out _; (with_reducible repeat (first | refine blk_drewN ?_ _ | refine blk_drew ?_ | refine blk_alloc ?_ _)); exact BK238.out⟩, ⟨by (with_reducible repeat (first | refine blk_drewN ?_ _ | refine blk_drew ?_ | refine blk_alloc ?_ _)); refine blk_far ?_ NB239_250.out _; (with_reducible repeat (first | refine blk_drewN ?_ _ | refine blk_drew ?_ | refine blk_alloc ?_ _)); refine blk_far ?_ NB239_250.out _; (with_reducible repeat (first | refine blk_drewN ?_ _ | refine blk_drew ?_ | refine blk_alloc ?_ _)); refine blk_far ?_ NB239_250.out _; (with_reducible repeat (first | refine blk_drewN ?_ _ | refine blk_drew ?_ | refine blk_alloc ?_ _)); exact BK239.out⟩, ⟨by (with_reducible repeat (first | refine blk_drewN ?_ _ | refine blk_drew ?_ | refine blk_alloc ?_ _)); refine blk_far ?_ NB245_250.out _; (with_reducible repeat (first | refine blk_drewN ?_ _ | refine blk_drew ?_ | refine blk_alloc ?_ _)); refine blk_far ?_ NB245_250.out _; (with_reducible repeat (first | refine blk_drewN ?_ _ | refine blk_drew ?_ | refine blk_alloc ?_ _)); refine blk_far ?_ NB245_250.out _; (with_reducible repeat (first | refine blk_drewN ?_ _ | refine blk_drew ?_ | refine blk_alloc ?_ _)); exact BK245.out⟩, ⟨by (with_reducible repeat (first | refine blk_drewN ?_ _ | refine blk_drew ?_ | refine blk_alloc ?_ _)); refine blk_put (cs := #[.int .i64 t246, .int .i64 t247, .string (⟨#[]⟩ : ByteArray)]) ?_ 2 _ rfl; (with_reducible repeat (first | refine blk_drewN ?_ _ | refine blk_drew ?_ | refine blk_alloc ?_ _)); refine blk_put (cs := #[.int .i64 t246, .int .i64 0, .string (⟨#[]⟩ : ByteArray)]) ?_ 1 _ rfl; (with_reducible repeat (first | refine blk_drewN ?_ _ | refine blk_drew ?_ | refine blk_alloc ?_ _)); refine blk_put (cs := #[.int .i64 0, .int .i64 0, .string (⟨#[]⟩ : ByteArray)]) ?_ 0 _ rfl; (with_reducible repeat (first | refine blk_drewN ?_ _ | refine blk_drew ?_ | refine blk_alloc ?_ _)); exact BK250.out⟩, ⟨by repeat (first | (with_reducible first | exact HB.out | apply below_alloc | apply pw_below_drewN | apply below_drew1 | refine below_set ?_ GE238.out | refine below_set ?_ GE239.out | refine below_set ?_ GE245.out | refine below_set ?_ GE250.out) | exact HB.out)⟩⟩
          · rw [if_neg c38] at H
            have c38b0 : (t244 == 0) = false := beq_eq_false_iff_ne.mpr c38
            have c38b1 : (t244 != 0) = true := bne_iff_ne.mpr c38
            (first | rw [c38b0] | (simp only [i64_w, i32_w]; rw [c38b0]) | skip)
            have H' := Aside0.mk H
            clear H
            go_wp2
            go_meet
            case rel => exact ⟨_, (true), (by first | rfl | (simp; done) | (simp [*]; done)), H', ⟨by have := HJ4.out; first | omega | exact Nat.le_refl _⟩, ⟨by (with_reducible repeat (first | refine blk_drewN ?_ _ | refine blk_drew ?_ | refine blk_alloc ?_ _)); refine blk_far ?_ NB238_250.out _; (with_reducible repeat (first | refine blk_drewN ?_ _ | refine blk_drew ?_ | refine blk_alloc ?_ _)); refine blk_far ?_ NB238_250.out _; (with_reducible repeat (first | refine blk_drewN ?_ _ | refine blk_drew ?_ | refine blk_alloc ?_ _)); refine blk_far ?_ NB238_250.out _; (with_reducible repeat (first | refine blk_drewN ?_ _ | refine blk_drew ?_ | refine blk_alloc ?_ _)); exact BK238.out⟩, ⟨by (with_reducible repeat (first | refine blk_drewN ?_ _ | refine blk_drew ?_ | refine blk_alloc ?_ _)); refine blk_far ?_ NB239_250.out _; (with_reducible repeat (first | refine blk_drewN ?_ _ | refine blk_drew ?_ | refine blk_alloc ?_ _)); refine blk_far ?_ NB239_250.out _; (with_reducible repeat (first | refine blk_drewN ?_ _ | refine blk_drew ?_ | refine blk_alloc ?_ _)); refine blk_far ?_ NB239_250.out _; (with_reducible repeat (first | refine blk_drewN ?_ _ | refine blk_drew ?_ | refine blk_alloc ?_ _)); exact BK239.out⟩, ⟨by (with_reducible repeat (first | refine blk_drewN ?_ _ | refine blk_drew ?_ | refine blk_alloc ?_ _)); refine blk_far ?_ NB245_250.out _; (with_reducible repeat (first | refine blk_drewN ?_ _ | refine blk_drew ?_ | refine blk_alloc ?_ _)); refine blk_far ?_ NB245_250.out _; (with_reducible repeat (first | refine blk_drewN ?_ _ | refine blk_drew ?_ | refine blk_alloc ?_ _)); refine blk_far ?_ NB245_250.out _; (with_reducible repeat (first | refine blk_drewN ?_ _ | refine blk_drew ?_ | refine blk_alloc ?_ _)); exact BK245.out⟩, ⟨by (with_reducible repeat (first | refine blk_drewN ?_ _ | refine blk_drew ?_ | refine blk_alloc ?_ _)); refine blk_put (cs := #[.int .i64 t246, .int .i64 t247, .string (⟨#[]⟩ : ByteArray)]) ?_ 2 _ rfl; (with_reducible repeat (first | refine blk_drewN ?_ _ | refine blk_drew ?_ | refine blk_alloc ?_ _)); refine blk_put (cs := #[.int .i64 t246, .int .i64 0, .string (⟨#[]⟩ : ByteArray)]) ?_ 1 _ rfl; (with_reducible repeat (first | refine blk_drewN ?_ _ | refine blk_drew ?_ | refine blk_alloc ?_ _)); refine blk_put (cs := #[.int .i64 0, .int .i64 0, .string (⟨#[]⟩ : ByteArray)]) ?_ 0 _ rfl; (with_reducible repeat (first | refine blk_drewN ?_ _ | refine blk_drew ?_ | refine blk_alloc ?_ _)); exact BK250.out⟩, ⟨by repeat (first | (with_reducible first | exact HB.out | apply below_alloc | apply pw_below_drewN | apply below_drew1 | refine below_set ?_ GE238.out | refine below_set ?_ GE239.out | refine below_set ?_ GE245.out | refine below_set ?_ GE250.out) | exact HB.out)⟩⟩
        case rest =>
          clear HC23
          try clear c1
          try clear c2
          try clear p2
          try clear c3
          try clear c8
          try clear c9
          try clear c10
          try clear c10b0
          try clear c10b1
          try clear c11
          try clear c13
          try clear c13b0
          try clear c13b1
          try clear c14
          try clear c17
          try clear c20
          try clear c24
          try clear c28
          try clear c29
          try clear c34
          try clear c35
          try clear c36
          try clear c38
          try clear c38b0
          try clear c38b1
          try clear hcz12_0
          try clear hcz12_1
          try clear hcz12_2
          try clear hcz15_0
          try clear hcz15_1
          try clear hcz15_2
          try clear hcz16_0
          try clear hcz16_1
          try clear hcz16_2
          try clear hcz18_0
          try clear hcz18_1
          try clear hcz18_2
          try clear hcz19_0
          try clear hcz19_1
          try clear hcz19_2
          try clear hcz25_0
          try clear hcz25_1
          try clear hcz25_2
          try clear hcz30_0
          try clear hcz30_1
          try clear hcz30_2
          try clear hcz31_0
          try clear hcz31_1
          try clear hcz31_2
          try clear hcz37_0
          try clear hcz37_1
          try clear hcz37_2
          try clear hfz12_0
          try clear hfz12_1
          try clear hfz12_2
          try clear hfz15_0
          try clear hfz15_1
          try clear hfz15_2
          try clear hfz16_0
          try clear hfz16_1
          try clear hfz16_2
          try clear hfz18_0
          try clear hfz18_1
          try clear hfz18_2
          try clear hfz19_0
          try clear hfz19_1
          try clear hfz19_2
          try clear hfz25_0
          try clear hfz25_1
          try clear hfz25_2
          try clear hfz30_0
          try clear hfz30_1
          try clear hfz30_2
          try clear hfz31_0
          try clear hfz31_1
          try clear hfz31_2
          try clear hfz37_0
          try clear hfz37_1
          try clear hfz37_2
          try clear p2
          obtain ⟨kq, x52_22, rfl, HA, HJ22, BK238, BK239, BK245, BK250, HB⟩ := hcut
          cases kq with
          | zero => exact absurd HA.out (by simp [moultlaw2_LatticeKeeps.j1])
          | succ kj22 =>
            have H := HA.out
            clear HA
            simp only [moultlaw2_LatticeKeeps.j1] at H
            by_cases c39 : x52_22 = true
            · subst c39
              have H1 : (some true) = some r := by rw [if_pos rfl] at H; exact H
              clear H
              have H := H1
              clear H1
              obtain rfl := Option.some.inj H
              go_wp2
              go_ret
              exact ⟨by first | rfl | (simp [errW_none, errW_some] <;> rfl) | (simp [*, errW_none, errW_some] <;> rfl), by repeat (first | (with_reducible first | exact HB.out | apply below_alloc | apply pw_below_drewN | apply below_drew1 | refine below_set ?_ GE238.out | refine below_set ?_ GE239.out | refine below_set ?_ GE245.out | refine below_set ?_ GE250.out) | exact HB.out)⟩
            · replace c39 := Bool.eq_false_iff.mpr c39
              subst c39
              have H1 : ((moultref1_Compare.f kj22 t241 t242 t243 t246 t247 t248).bind fun t251 => ((moultref1_Compare.f kj22 a0_0 a0_1 a0_2 a1_0 a1_1 a1_2).bind fun t252 => (some (t251 == t252)))) = some r := by rw [if_neg (show ¬ (false = true) by decide)] at H; exact H
              clear H
              have H := H1
              clear H1
              replace H := Option.bind_eq_some_iff.mp H
              obtain ⟨t251, A400, H⟩ := H
              replace H : ((moultref1_Compare.f kj22 a0_0 a0_1 a0_2 a1_0 a1_1 a1_2).bind fun t252 => (some (t251 == t252))) = some r := H
              have A40 := Aside0.mk A400
              clear A400
              replace H := Option.bind_eq_some_iff.mp H
              obtain ⟨t252, A410, H⟩ := H
              replace H : (some (t251 == t252)) = some r := H
              have A41 := Aside0.mk A410
              clear A410
              obtain rfl := Option.some.inj H
              try go_wp2
              have n0_ := Aside0.mk (blk_drew BK238.out)
              have n1_ := Aside0.mk (blk_drew BK239.out)
              have n2_ := Aside0.mk (blk_drew BK245.out)
              have n3_ := Aside0.mk (blk_drew BK250.out)
              have n4_ := Aside0.mk (below_drew1 HB.out)
              clear BK238
              clear BK239
              clear BK245
              clear BK250
              clear HB
              have BK238 := n0_
              have BK239 := n1_
              have BK245 := n2_
              have BK250 := n3_
              have HB := n4_
              clear n0_ n1_ n2_ n3_ n4_
              refine start_ (n := 8) (S := fun w' => w'.cell? ⟨gb245, 0, none⟩ = some (.int .i64 t241) ∧ w'.cell? ⟨gb245, 1, none⟩ = some (.int .i64 t242) ∧ w'.cell? ⟨gb245, 2, none⟩ = some (.string t243) ∧ w'.cell? ⟨gb250, 0, none⟩ = some (.int .i64 t246) ∧ w'.cell? ⟨gb250, 1, none⟩ = some (.int .i64 t247) ∧ w'.cell? ⟨gb250, 2, none⟩ = some (.string t248) ∧ w'.cell? ⟨gb238, 0, none⟩ = some (.int .i64 a0_0) ∧ w'.cell? ⟨gb238, 1, none⟩ = some (.int .i64 a0_1) ∧ w'.cell? ⟨gb238, 2, none⟩ = some (.string a0_2) ∧ w'.cell? ⟨gb239, 0, none⟩ = some (.int .i64 a1_0) ∧ w'.cell? ⟨gb239, 1, none⟩ = some (.int .i64 a1_1) ∧ w'.cell? ⟨gb239, 2, none⟩ = some (.string a1_2)) (ds := []) #[false, false, false, false, false, false, false, false] (by kernel_rfl) rfl rfl ⟨(blk_cell BK245.out 0).trans rfl, (blk_cell BK245.out 1).trans rfl, (blk_cell BK245.out 2).trans rfl, (blk_cell BK250.out 0).trans rfl, (blk_cell BK250.out 1).trans rfl, (blk_cell BK250.out 2).trans rfl, (blk_cell BK238.out 0).trans rfl, (blk_cell BK238.out 1).trans rfl, (blk_cell BK238.out 2).trans rfl, (blk_cell BK239.out 0).trans rfl, (blk_cell BK239.out 1).trans rfl, (blk_cell BK239.out 2).trans rfl⟩ (fun hHeld => ?_); refine with_tabW moultlaw2_LatticeKeeps.tab8 moultlaw2_LatticeKeeps.bits8 (fun HT_ HW_ => ?_)
              generalize wc.drew = w42 at BK238 BK239 BK245 BK250 HB hHeld ⊢
              refine take_ (i := 0) (N := some 53) (v := ?_) (a' := ?_) #[true, false, false, false, false, false, false, false] rfl rfl (take_ofW HT_.out HW_.out (by kernel_rfl)) (fun _ _ _ h => h) (Or.inl ⟨by rfl, ?_⟩) hHeld ?_ ?_
              rotate_left
              · rintro w' ⟨s0, s1, s2, s3, s4, s5, s6, s7, s8, s9, s10, s11⟩
                go_simp
                with_reducible rfl
              rotate_left
              · simp only [Act.put, List.setIfInBounds_toArray, List.set_cons_zero, List.set_cons_succ, i64_w, i32_w]
                rfl
              refine take_ (i := 1) (N := some 54) (v := ?_) (a' := ?_) #[true, true, false, false, false, false, false, false] rfl rfl (take_ofW HT_.out HW_.out (by kernel_rfl)) (fun _ _ _ h => h) (Or.inl ⟨by rfl, ?_⟩) hHeld ?_ ?_
              rotate_left
              · rintro w' ⟨s0, s1, s2, s3, s4, s5, s6, s7, s8, s9, s10, s11⟩
                go_simp
                with_reducible rfl
              rotate_left
              · simp only [Act.put, List.setIfInBounds_toArray, List.set_cons_zero, List.set_cons_succ, i64_w, i32_w]
                rfl
              refine take_ (i := 3) (N := some 56) (v := ?_) (a' := ?_) #[true, true, false, true, false, false, false, false] rfl rfl (take_ofW HT_.out HW_.out (by kernel_rfl)) (fun _ _ _ h => h) (Or.inl ⟨by rfl, ?_⟩) hHeld ?_ ?_
              rotate_left
              · rintro w' ⟨s0, s1, s2, s3, s4, s5, s6, s7, s8, s9, s10, s11⟩
                go_simp
                with_reducible rfl
              rotate_left
              · simp only [Act.put, List.setIfInBounds_toArray, List.set_cons_zero, List.set_cons_succ, i64_w, i32_w]
                rfl
              refine take_ (i := 4) (N := some 57) (v := ?_) (a' := ?_) #[true, true, false, true, true, false, false, false] rfl rfl (take_ofW HT_.out HW_.out (by kernel_rfl)) (fun _ _ _ h => h) (Or.inl ⟨by rfl, ?_⟩) hHeld ?_ ?_
              rotate_left
              · rintro w' ⟨s0, s1, s2, s3, s4, s5, s6, s7, s8, s9, s10, s11⟩
                go_simp
                with_reducible rfl
              rotate_left
              · simp only [Act.put, List.setIfInBounds_toArray, List.set_cons_zero, List.set_cons_succ, i64_w, i32_w]
                rfl
              refine one_ (i := 2) (N := some 55) #[true, true, true, true, true, false, false, false] rfl rfl (one_of HT_.out (by kernel_rfl)) (by decide) (fun K hK => ?_)
              refine goes_ Try.func25 (by kernel_rfl) rfl #[.agg #[.int .i64 t241, .int .i64 t242, .string t243], .agg #[.int .i64 t246, .int .i64 t247, .string t248]] (by rfl) rfl rfl (by (try simp only [List.map_toArray, List.map_cons, List.map_nil]); first | done | rfl | (simp only [List.length_drop, List.length_take]; rfl)) ?_
              with_reducible refine (moultref1_Compare.calls kj22 t241 t242 t243 t246 t247 t248 t251 _ A40.out).mono ?_
              rintro e w43 ⟨rfl, hb⟩
              refine ⟨_, rfl, ?_⟩
              have n0_ := Aside0.mk (blk_below (g := gb238) (o := .cells #[.int .i64 a0_0, .int .i64 a0_1, .string a0_2] 30 (0, 0)) (by (with_reducible repeat (first | refine blk_drewN ?_ _ | refine blk_drew ?_ | refine blk_alloc ?_ _)); exact BK238.out) hb)
              have n1_ := Aside0.mk (blk_below (g := gb239) (o := .cells #[.int .i64 a1_0, .int .i64 a1_1, .string a1_2] 30 (0, 0)) (by (with_reducible repeat (first | refine blk_drewN ?_ _ | refine blk_drew ?_ | refine blk_alloc ?_ _)); exact BK239.out) hb)
              have n2_ := Aside0.mk (blk_below (g := gb245) (o := .cells #[.int .i64 t241, .int .i64 t242, .string t243] 30 (0, 0)) (by (with_reducible repeat (first | refine blk_drewN ?_ _ | refine blk_drew ?_ | refine blk_alloc ?_ _)); exact BK245.out) hb)
              have n3_ := Aside0.mk (blk_below (g := gb250) (o := .cells #[.int .i64 t246, .int .i64 t247, .string t248] 30 (0, 0)) (by (with_reducible repeat (first | refine blk_drewN ?_ _ | refine blk_drew ?_ | refine blk_alloc ?_ _)); exact BK250.out) hb)
              have n4_ := Aside0.mk (below_step (by repeat (first | (with_reducible first | exact HB.out | apply below_alloc | apply pw_below_drewN | apply below_drew1 | refine below_set ?_ GE238.out | refine below_set ?_ GE239.out | refine below_set ?_ GE245.out | refine below_set ?_ GE250.out) | exact HB.out)) hb)
              clear BK238
              clear BK239
              clear BK245
              clear BK250
              clear HB
              have BK238 := n0_
              have BK239 := n1_
              have BK245 := n2_
              have BK250 := n3_
              have HB := n4_
              clear n0_ n1_ n2_ n3_ n4_
              (try clear hb)
              (try clear hb2)
              (try clear hk)
              (try clear hi)
              refine hK.out _ _ ⟨(blk_cell BK245.out 0).trans rfl, (blk_cell BK245.out 1).trans rfl, (blk_cell BK245.out 2).trans rfl, (blk_cell BK250.out 0).trans rfl, (blk_cell BK250.out 1).trans rfl, (blk_cell BK250.out 2).trans rfl, (blk_cell BK238.out 0).trans rfl, (blk_cell BK238.out 1).trans rfl, (blk_cell BK238.out 2).trans rfl, (blk_cell BK239.out 0).trans rfl, (blk_cell BK239.out 1).trans rfl, (blk_cell BK239.out 2).trans rfl⟩ (fun hHeld => ?_)
              clear hK K
              refine norm_ (a' := ?_) ?_ ?_
              rotate_left
              · show Act.put _ (some 55) _ = _
                simp only [Act.put, List.setIfInBounds_toArray, List.set_cons_zero, List.set_cons_succ, i64_w, i32_w]
                rfl
              refine one_ (i := 5) (N := some 58) #[true, true, true, true, true, true, false, false] rfl rfl (one_of HT_.out (by kernel_rfl)) (by decide) (fun K hK => ?_)
              refine goes_ Try.func25 (by kernel_rfl) rfl #[.agg #[.int .i64 a0_0, .int .i64 a0_1, .string a0_2], .agg #[.int .i64 a1_0, .int .i64 a1_1, .string a1_2]] (by rfl) rfl rfl (by (try simp only [List.map_toArray, List.map_cons, List.map_nil]); first | done | rfl | (simp only [List.length_drop, List.length_take]; rfl)) ?_
              with_reducible refine (moultref1_Compare.calls kj22 a0_0 a0_1 a0_2 a1_0 a1_1 a1_2 t252 _ A41.out).mono ?_
              rintro e w44 ⟨rfl, hb⟩
              refine ⟨_, rfl, ?_⟩
              have n0_ := Aside0.mk (blk_below (g := gb238) (o := .cells #[.int .i64 a0_0, .int .i64 a0_1, .string a0_2] 30 (0, 0)) (by (with_reducible repeat (first | refine blk_drewN ?_ _ | refine blk_drew ?_ | refine blk_alloc ?_ _)); exact BK238.out) hb)
              have n1_ := Aside0.mk (blk_below (g := gb239) (o := .cells #[.int .i64 a1_0, .int .i64 a1_1, .string a1_2] 30 (0, 0)) (by (with_reducible repeat (first | refine blk_drewN ?_ _ | refine blk_drew ?_ | refine blk_alloc ?_ _)); exact BK239.out) hb)
              have n2_ := Aside0.mk (blk_below (g := gb245) (o := .cells #[.int .i64 t241, .int .i64 t242, .string t243] 30 (0, 0)) (by (with_reducible repeat (first | refine blk_drewN ?_ _ | refine blk_drew ?_ | refine blk_alloc ?_ _)); exact BK245.out) hb)
              have n3_ := Aside0.mk (blk_below (g := gb250) (o := .cells #[.int .i64 t246, .int .i64 t247, .string t248] 30 (0, 0)) (by (with_reducible repeat (first | refine blk_drewN ?_ _ | refine blk_drew ?_ | refine blk_alloc ?_ _)); exact BK250.out) hb)
              have n4_ := Aside0.mk (below_step (by repeat (first | (with_reducible first | exact HB.out | apply below_alloc | apply pw_below_drewN | apply below_drew1 | refine below_set ?_ GE238.out | refine below_set ?_ GE239.out | refine below_set ?_ GE245.out | refine below_set ?_ GE250.out) | exact HB.out)) hb)
              clear BK238
              clear BK239
              clear BK245
              clear BK250
              clear HB
              have BK238 := n0_
              have BK239 := n1_
              have BK245 := n2_
              have BK250 := n3_
              have HB := n4_
              clear n0_ n1_ n2_ n3_ n4_
              (try clear hb)
              (try clear hb2)
              (try clear hk)
              (try clear hi)
              refine hK.out _ _ ⟨(blk_cell BK245.out 0).trans rfl, (blk_cell BK245.out 1).trans rfl, (blk_cell BK245.out 2).trans rfl, (blk_cell BK250.out 0).trans rfl, (blk_cell BK250.out 1).trans rfl, (blk_cell BK250.out 2).trans rfl, (blk_cell BK238.out 0).trans rfl, (blk_cell BK238.out 1).trans rfl, (blk_cell BK238.out 2).trans rfl, (blk_cell BK239.out 0).trans rfl, (blk_cell BK239.out 1).trans rfl, (blk_cell BK239.out 2).trans rfl⟩ (fun hHeld => ?_)
              clear hK K
              refine norm_ (a' := ?_) ?_ ?_
              rotate_left
              · show Act.put _ (some 58) _ = _
                simp only [Act.put, List.setIfInBounds_toArray, List.set_cons_zero, List.set_cons_succ, i64_w, i32_w]
                rfl
              refine pure_ (i := 6) (N := some 59) (v := ?_) (a' := ?_) #[true, true, true, true, true, true, true, false] rfl rfl (any_of HT_.out (by kernel_rfl)) (fun _ _ _ h => h) (Or.inl ⟨by rfl, ?_⟩) ?_ ?_
              rotate_left
              · intro w'
                go_simp
                with_reducible rfl
              rotate_left
              · simp only [Act.put, List.setIfInBounds_toArray, List.set_cons_zero, List.set_cons_succ, i64_w, i32_w]
                rfl
              refine pure_ (i := 7) (N := some 6) (v := ?_) (a' := ?_) #[true, true, true, true, true, true, true, true] rfl rfl (any_of HT_.out (by kernel_rfl)) (fun _ _ _ h => h) (Or.inl ⟨by rfl, ?_⟩) ?_ ?_
              rotate_left
              · intro w'
                go_simp
                with_reducible rfl
              rotate_left
              · simp only [Act.put, List.setIfInBounds_toArray, List.set_cons_zero, List.set_cons_succ, i64_w, i32_w]
                rfl
              refine done_ (done_of HT_.out (by kernel_rfl)) ?_
              try go_wp2
              go_ret
              exact ⟨by first | rfl | (simp [errW_none, errW_some] <;> rfl) | (simp [*, errW_none, errW_some] <;> rfl), by repeat (first | (with_reducible first | exact HB.out | apply below_alloc | apply pw_below_drewN | apply below_drew1 | refine below_set ?_ GE238.out | refine below_set ?_ GE239.out | refine below_set ?_ GE245.out | refine below_set ?_ GE250.out) | exact HB.out)⟩

end Go.Proofs.Ytcabpbjghiobpaa.PAll
