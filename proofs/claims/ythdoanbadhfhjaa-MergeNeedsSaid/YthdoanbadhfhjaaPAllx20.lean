-- Laid by ownprint.py (a program of the session, in wip/tools), out of the translation: Lean checks it.
import Derived.Test.YthdoanbadhfhjaaPAllx0
import Derived.Test.YthdoanbadhfhjaaGv
namespace Go.Proofs.Ythdoanbadhfhjaa.PAll
open Go.RowKit Go.Proofs.YthdoanbadhfhjaaW.PrintWords Go.Proofs.YthdoanbadhfhjaaW.PrintLast Go.Proofs.YthdoanbadhfhjaaW.PrintMore
attribute [local go_sem] max2_int min2_int max_two min_two max_three min_three max_four min_four   -- for this text's walks alone
set_option linter.unusedVariables false
set_option linter.unusedSimpArgs false

/-! ### moultlaw12_newest: function 23 -/
def moultlaw12_newest.l0 : Nat → List (S36) → Int → Int → ByteArray → Int → Bool → ByteArray → Option (Bool)
 | 0, _, _, _, _, _, _, _ => none
 | k + 1, x0, x2, x7, x613000, x613001, x613002, x613003 => if x7 < (x0.length : Int) then (if 0 ≤ x7 then (if ((rd_T36 x0 x7).f0).toList = x613000.toList then (if ((rd_T36 x0 x7).f1) ≤ x2 then (if ((rd_T36 x0 x7).f1) > x613001 then (some false) else (moultlaw12_newest.l0 k x0 x2 (wrap64 (x7 + 1)) x613000 x613001 x613002 x613003)) else (moultlaw12_newest.l0 k x0 x2 (wrap64 (x7 + 1)) x613000 x613001 x613002 x613003)) else (moultlaw12_newest.l0 k x0 x2 (wrap64 (x7 + 1)) x613000 x613001 x613002 x613003)) else (none)) else (some (decide (x613001 ≤ x2)))
def moultlaw12_newest.f (k : Nat) (l0 : List (S36)) (a1_0 : ByteArray) (a1_1 : Int) (a1_2 : Bool) (a1_3 : ByteArray) (a2 : Int) : Option (Bool) := moultlaw12_newest.l0 k l0 a2 0 a1_0 a1_1 a1_2 a1_3
theorem moultlaw12_newest.mono_l : ∀ k, (∀ y0 y1 y2 y3 y4 y5 y6, LeO (moultlaw12_newest.l0 k y0 y1 y2 y3 y4 y5 y6) (moultlaw12_newest.l0 (k + 1) y0 y1 y2 y3 y4 y5 y6))
 | 0 => fun _ _ _ _ _ _ _ r h => by simp [moultlaw12_newest.l0] at h
 | k + 1 => by
  have ih0 := moultlaw12_newest.mono_l k
  ·intro y0 y1 y2 y3 y4 y5 y6
   unfold moultlaw12_newest.l0
   repeat' first
   | (with_reducible exact ih0 _ _ _ _ _ _ _)
   | (with_reducible exact LeO.refl _)
   | (with_reducible exact LeO.none _)
   | (with_reducible refine LeO.ite ?_ ?_)
   | (with_reducible refine LeO.bind ?_ (fun _ => ?_))
   | exact ih0 _ _ _ _ _ _ _
   | exact LeO.none _
   | refine LeO.ite ?_ ?_
   | refine LeO.bind ?_ (fun _ => ?_)
theorem moultlaw12_newest.mono : ∀ a0 a1 a2 a3 a4 a5 k, LeO (moultlaw12_newest.f k a0 a1 a2 a3 a4 a5) (moultlaw12_newest.f (k + 1) a0 a1 a2 a3 a4 a5) := by
 intro a0 a1 a2 a3 a4 a5 k
 have ih0 := moultlaw12_newest.mono_l k
 unfold moultlaw12_newest.f
 repeat' first
   | (with_reducible exact ih0 _ _ _ _ _ _ _)
   | (with_reducible exact LeO.refl _)
   | (with_reducible exact LeO.none _)
   | (with_reducible refine LeO.ite ?_ ?_)
   | (with_reducible refine LeO.bind ?_ (fun _ => ?_))
   | exact ih0 _ _ _ _ _ _ _
   | exact LeO.none _
   | refine LeO.ite ?_ ?_
   | refine LeO.bind ?_ (fun _ => ?_)
set_option maxHeartbeats 8000000 in
set_option maxRecDepth 100000 in
theorem moultlaw12_newest.calls (k : Nat) (A0 : Option Addr) (c0 : Nat) (l0 : List (S36)) (a1_0 : ByteArray) (a1_1 : Int) (a1_2 : Bool) (a1_3 : ByteArray) (a2 : Int) (r : Bool) (w : World) (hr0 : Kd.C k36 w A0 l0.length l0) (hc0 : l0.length ≤ c0) (h : moultlaw12_newest.f k l0 a1_0 a1_1 a1_2 a1_3 a2 = some r) :
  Calls Try.prog 23 #[.slice A0 l0.length c0, .agg #[.string a1_0, .int .i64 a1_1, .bool a1_2, .string a1_3], .int .i64 a2] w fun e w' => e = .returned (.bool r) ∧ Below w.heap.size w w' := by
 have hu36 := Try.underlying36
 have HR0 := Aside0.mk hr0
 have HC0 := Aside0.mk hc0
 clear hr0 hc0
 have HB := Aside0.mk (Below.refl w.heap.size w)
 have H : (moultlaw12_newest.l0 k l0 a2 0 a1_0 a1_1 a1_2 a1_3) = some r := h
 clear h
 have H' := Aside0.mk H
 clear H
 go_enter Try.func23, Try.ntmps23
 go_wp2_with (first | ((with_reducible refine gate_dst (N := 4) rfl ?_); refine box_event ?hg (N := 4) ?hd (cs := #[.string a1_0, .int .i64 a1_1, .bool a1_2, .string a1_3]) (t := 36) ?hr ?_; (case hd => rfl); (case hg => rfl); (case hr => first | (go_simp; done) | (go_simp; rfl)); intro gb612 hg w4 hbox hb; have n0_ := Aside0.mk (below_step (by repeat (first | (with_reducible first | exact HB.out | apply below_alloc | apply pw_below_drewN | apply below_drew1) | exact HB.out)) hb); have n1_ := Aside0.mk (hbox); have n2_ := Aside0.mk ((by rw [hg]; exact (below_size (by repeat (first | (with_reducible first | exact HB.out | apply below_alloc | apply pw_below_drewN | apply below_drew1) | exact HB.out))) : w.heap.size ≤ gb612)); have n3_ := Aside0.mk ((by rw [hg]; exact (below_size (by repeat (first | (with_reducible first | exact HB.out | apply below_alloc | apply pw_below_drewN | apply below_drew1) | exact HB.out))) : w.heap.size ≤ gb612)); clear HB; have HB := n0_; have BK612 := n1_; have GW612 := n2_; have GE612 := n3_; clear n0_ n1_ n2_ n3_; clear hb hbox hg))
 repeat (go_quiet (first | ((with_reducible refine gate_dst (N := 4) rfl ?_); refine box_event ?hg (N := 4) ?hd (cs := #[.string a1_0, .int .i64 a1_1, .bool a1_2, .string a1_3]) (t := 36) ?hr ?_; (case hd => rfl); (case hg => rfl); (case hr => first | (go_simp; done) | (go_simp; rfl)); intro gb612 hg w4 hbox hb; have n0_ := Aside0.mk (below_step (by repeat (first | (with_reducible first | exact HB.out | apply below_alloc | apply pw_below_drewN | apply below_drew1) | exact HB.out)) hb); have n1_ := Aside0.mk (hbox); have n2_ := Aside0.mk ((by rw [hg]; exact (below_size (by repeat (first | (with_reducible first | exact HB.out | apply below_alloc | apply pw_below_drewN | apply below_drew1) | exact HB.out))) : w.heap.size ≤ gb612)); have n3_ := Aside0.mk ((by rw [hg]; exact (below_size (by repeat (first | (with_reducible first | exact HB.out | apply below_alloc | apply pw_below_drewN | apply below_drew1) | exact HB.out))) : w.heap.size ≤ gb612)); clear HB; have HB := n0_; have BK612 := n1_; have GW612 := n2_; have GE612 := n3_; clear n0_ n1_ n2_ n3_; clear hb hbox hg)); try go_wp2_with (first | ((with_reducible refine gate_dst (N := 4) rfl ?_); refine box_event ?hg (N := 4) ?hd (cs := #[.string a1_0, .int .i64 a1_1, .bool a1_2, .string a1_3]) (t := 36) ?hr ?_; (case hd => rfl); (case hg => rfl); (case hr => first | (go_simp; done) | (go_simp; rfl)); intro gb612 hg w4 hbox hb; have n0_ := Aside0.mk (below_step (by repeat (first | (with_reducible first | exact HB.out | apply below_alloc | apply pw_below_drewN | apply below_drew1) | exact HB.out)) hb); have n1_ := Aside0.mk (hbox); have n2_ := Aside0.mk ((by rw [hg]; exact (below_size (by repeat (first | (with_reducible first | exact HB.out | apply below_alloc | apply pw_below_drewN | apply below_drew1) | exact HB.out))) : w.heap.size ≤ gb612)); have n3_ := Aside0.mk ((by rw [hg]; exact (below_size (by repeat (first | (with_reducible first | exact HB.out | apply below_alloc | apply pw_below_drewN | apply below_drew1) | exact HB.out))) : w.heap.size ≤ gb612)); clear HB; have HB := n0_; have BK612 := n1_; have GW612 := n2_; have GE612 := n3_; clear n0_ n1_ n2_ n3_; clear hb hbox hg)))
 go_loopg [7] k (fun kq v7 w' => ∃ (x7_1 : Int), v7 = .int .i64 x7_1 ∧ Aside0 (moultlaw12_newest.l0 kq l0 a2 x7_1 a1_0 a1_1 a1_2 a1_3 = some r) ∧ Aside0 (kq ≤ k) ∧ Aside0 (w'.heap[gb612]? = some (.cells #[.string a1_0, .int .i64 a1_1, .bool a1_2, .string a1_3] 36 (0, 0))) ∧ Aside0 (Below w.heap.size w w'))
 case atStart => exact ⟨(0), (by first | rfl | (simp; done) | (simp [*]; done)), H', ⟨Nat.le_refl _⟩, ⟨by (with_reducible repeat (first | refine blk_drewN ?_ _ | refine blk_drew ?_ | refine blk_alloc ?_ _)); exact BK612.out⟩, ⟨by repeat (first | (with_reducible first | exact HB.out | apply below_alloc | apply pw_below_drewN | apply below_drew1 | refine below_set ?_ GE612.out) | exact HB.out)⟩⟩
 case round =>
  clear H'
  try clear c2
  try clear p2
  obtain ⟨x7_1, rfl, HA, HK1, BK612, HB⟩ := hrel
  cases gk with
  | zero => exact absurd HA.out (by simp [moultlaw12_newest.l0])
  | succ k1 =>
   have H := HA.out
   clear HA
   simp only [moultlaw12_newest.l0] at H
   by_cases c5 : x7_1 < (l0.length : Int)
   ·rw [if_pos c5] at H
    have c5b0 : decide (x7_1 < (l0.length : Int)) = true := decide_eq_true c5
    clear c5
    by_cases c6 : 0 ≤ x7_1
    ·rw [if_pos c6] at H
     have c6b0 : decide (0 ≤ x7_1) = true := decide_eq_true c6
     clear c6
     by_cases c7 : ((rd_T36 l0 x7_1).f0).toList = a1_0.toList
     ·rw [if_pos c7] at H
      have c7b0 : (((rd_T36 l0 x7_1).f0).toList == a1_0.toList) = true := beq_iff_eq.mpr c7
      have c7b1 : (((rd_T36 l0 x7_1).f0).toList != a1_0.toList) = false := bne_eq_false_iff_eq.mpr c7
      clear c7
      by_cases c8 : ((rd_T36 l0 x7_1).f1) ≤ a2
      ·rw [if_pos c8] at H
       have c8b0 : decide (((rd_T36 l0 x7_1).f1) ≤ a2) = true := decide_eq_true c8
       clear c8
       by_cases c9 : ((rd_T36 l0 x7_1).f1) > a1_1
       ·rw [if_pos c9] at H
        have c9b0 : decide (a1_1 < ((rd_T36 l0 x7_1).f1)) = true := decide_eq_true c9
        clear c9
        obtain rfl := Option.some.inj H
        have p613 : 0 ≤ (x7_1 : Int) := of_decide_eq_true (by first | (with_reducible assumption) | assumption)
        have q613 : x7_1 < (l0.length : Int) := of_decide_eq_true (by first | (with_reducible assumption) | assumption)
        obtain ⟨ad613, e613, hx613_0, hx613_1, hx613_2, hx613_3⟩ := at_T36 HR0.out x7_1 p613 q613
        cases e613
        replace hx613_0 := (HB.out.cell (World.block_lt_of_cell? w _ hx613_0)).trans hx613_0
        replace hx613_1 := (HB.out.cell (World.block_lt_of_cell? w _ hx613_1)).trans hx613_1
        replace hx613_2 := (HB.out.cell (World.block_lt_of_cell? w _ hx613_2)).trans hx613_2
        replace hx613_3 := (HB.out.cell (World.block_lt_of_cell? w _ hx613_3)).trans hx613_3
        replace p613 := eq_true p613
        replace q613 := eq_true q613
        have hcz10_0 : wr.cell? ⟨gb612, 0, none⟩ = some (.string a1_0) := (blk_cell BK612.out 0).trans rfl
        have hcz10_1 : wr.cell? ⟨gb612, 1, none⟩ = some (.int .i64 a1_1) := (blk_cell BK612.out 1).trans rfl
        have hcz10_2 : wr.cell? ⟨gb612, 2, none⟩ = some (.bool a1_2) := (blk_cell BK612.out 2).trans rfl
        have hcz10_3 : wr.cell? ⟨gb612, 3, none⟩ = some (.string a1_3) := (blk_cell BK612.out 3).trans rfl
        have hfz10_0 := blk_frozen BK612.out 0
        have hfz10_1 := blk_frozen BK612.out 1
        have hfz10_2 := blk_frozen BK612.out 2
        have hfz10_3 := blk_frozen BK612.out 3
        have p614 : 0 ≤ (x7_1 : Int) := of_decide_eq_true (by first | (with_reducible assumption) | assumption)
        have q614 : x7_1 < (l0.length : Int) := of_decide_eq_true (by first | (with_reducible assumption) | assumption)
        obtain ⟨ad614, e614, hx614_0, hx614_1, hx614_2, hx614_3⟩ := at_T36 HR0.out x7_1 p614 q614
        obtain rfl : ad613 = ad614 := (by injection e614)
        replace hx614_0 := (HB.out.cell (World.block_lt_of_cell? w _ hx614_0)).trans hx614_0
        replace hx614_1 := (HB.out.cell (World.block_lt_of_cell? w _ hx614_1)).trans hx614_1
        replace hx614_2 := (HB.out.cell (World.block_lt_of_cell? w _ hx614_2)).trans hx614_2
        replace hx614_3 := (HB.out.cell (World.block_lt_of_cell? w _ hx614_3)).trans hx614_3
        replace p614 := eq_true p614
        replace q614 := eq_true q614
        have p615 : 0 ≤ (x7_1 : Int) := of_decide_eq_true (by first | (with_reducible assumption) | assumption)
        have q615 : x7_1 < (l0.length : Int) := of_decide_eq_true (by first | (with_reducible assumption) | assumption)
        obtain ⟨ad615, e615, hx615_0, hx615_1, hx615_2, hx615_3⟩ := at_T36 HR0.out x7_1 p615 q615
        obtain rfl : ad613 = ad615 := (by injection e615)
        replace hx615_0 := (HB.out.cell (World.block_lt_of_cell? w _ hx615_0)).trans hx615_0
        replace hx615_1 := (HB.out.cell (World.block_lt_of_cell? w _ hx615_1)).trans hx615_1
        replace hx615_2 := (HB.out.cell (World.block_lt_of_cell? w _ hx615_2)).trans hx615_2
        replace hx615_3 := (HB.out.cell (World.block_lt_of_cell? w _ hx615_3)).trans hx615_3
        replace p615 := eq_true p615
        replace q615 := eq_true q615
        go_wp2
        repeat (go_quiet (fail); try go_wp2)
        go_ret
        exact ⟨by first | rfl | (simp [errW_none, errW_some] <;> rfl) | (simp [*, errW_none, errW_some] <;> rfl), by repeat (first | (with_reducible first | exact HB.out | apply below_alloc | apply pw_below_drewN | apply below_drew1 | refine below_set ?_ GE612.out) | exact HB.out)⟩
       ·rw [if_neg c9] at H
        have c9b0 : decide (a1_1 < ((rd_T36 l0 x7_1).f1)) = false := decide_eq_false c9
        clear c9
        have H' := Aside0.mk H
        clear H
        have p613 : 0 ≤ (x7_1 : Int) := of_decide_eq_true (by first | (with_reducible assumption) | assumption)
        have q613 : x7_1 < (l0.length : Int) := of_decide_eq_true (by first | (with_reducible assumption) | assumption)
        obtain ⟨ad613, e613, hx613_0, hx613_1, hx613_2, hx613_3⟩ := at_T36 HR0.out x7_1 p613 q613
        cases e613
        replace hx613_0 := (HB.out.cell (World.block_lt_of_cell? w _ hx613_0)).trans hx613_0
        replace hx613_1 := (HB.out.cell (World.block_lt_of_cell? w _ hx613_1)).trans hx613_1
        replace hx613_2 := (HB.out.cell (World.block_lt_of_cell? w _ hx613_2)).trans hx613_2
        replace hx613_3 := (HB.out.cell (World.block_lt_of_cell? w _ hx613_3)).trans hx613_3
        replace p613 := eq_true p613
        replace q613 := eq_true q613
        have hcz11_0 : wr.cell? ⟨gb612, 0, none⟩ = some (.string a1_0) := (blk_cell BK612.out 0).trans rfl
        have hcz11_1 : wr.cell? ⟨gb612, 1, none⟩ = some (.int .i64 a1_1) := (blk_cell BK612.out 1).trans rfl
        have hcz11_2 : wr.cell? ⟨gb612, 2, none⟩ = some (.bool a1_2) := (blk_cell BK612.out 2).trans rfl
        have hcz11_3 : wr.cell? ⟨gb612, 3, none⟩ = some (.string a1_3) := (blk_cell BK612.out 3).trans rfl
        have hfz11_0 := blk_frozen BK612.out 0
        have hfz11_1 := blk_frozen BK612.out 1
        have hfz11_2 := blk_frozen BK612.out 2
        have hfz11_3 := blk_frozen BK612.out 3
        have p614 : 0 ≤ (x7_1 : Int) := of_decide_eq_true (by first | (with_reducible assumption) | assumption)
        have q614 : x7_1 < (l0.length : Int) := of_decide_eq_true (by first | (with_reducible assumption) | assumption)
        obtain ⟨ad614, e614, hx614_0, hx614_1, hx614_2, hx614_3⟩ := at_T36 HR0.out x7_1 p614 q614
        obtain rfl : ad613 = ad614 := (by injection e614)
        replace hx614_0 := (HB.out.cell (World.block_lt_of_cell? w _ hx614_0)).trans hx614_0
        replace hx614_1 := (HB.out.cell (World.block_lt_of_cell? w _ hx614_1)).trans hx614_1
        replace hx614_2 := (HB.out.cell (World.block_lt_of_cell? w _ hx614_2)).trans hx614_2
        replace hx614_3 := (HB.out.cell (World.block_lt_of_cell? w _ hx614_3)).trans hx614_3
        replace p614 := eq_true p614
        replace q614 := eq_true q614
        have p615 : 0 ≤ (x7_1 : Int) := of_decide_eq_true (by first | (with_reducible assumption) | assumption)
        have q615 : x7_1 < (l0.length : Int) := of_decide_eq_true (by first | (with_reducible assumption) | assumption)
        obtain ⟨ad615, e615, hx615_0, hx615_1, hx615_2, hx615_3⟩ := at_T36 HR0.out x7_1 p615 q615
        obtain rfl : ad613 = ad615 := (by injection e615)
        replace hx615_0 := (HB.out.cell (World.block_lt_of_cell? w _ hx615_0)).trans hx615_0
        replace hx615_1 := (HB.out.cell (World.block_lt_of_cell? w _ hx615_1)).trans hx615_1
        replace hx615_2 := (HB.out.cell (World.block_lt_of_cell? w _ hx615_2)).trans hx615_2
        replace hx615_3 := (HB.out.cell (World.block_lt_of_cell? w _ hx615_3)).trans hx615_3
        replace p615 := eq_true p615
        replace q615 := eq_true q615
        go_wp2
        repeat (go_quiet (fail); try go_wp2)
        go_roundg k1
        case measure => have := HK1.out; omega
        case rel => exact ⟨(wrap64 (x7_1 + 1)), (by first | rfl | (simp; done) | (simp [*]; done)), H', ⟨by have := HK1.out; omega⟩, ⟨by (with_reducible repeat (first | refine blk_drewN ?_ _ | refine blk_drew ?_ | refine blk_alloc ?_ _)); exact BK612.out⟩, ⟨by repeat (first | (with_reducible first | exact HB.out | apply below_alloc | apply pw_below_drewN | apply below_drew1 | refine below_set ?_ GE612.out) | exact HB.out)⟩⟩
      ·rw [if_neg c8] at H
       have c8b0 : decide (((rd_T36 l0 x7_1).f1) ≤ a2) = false := decide_eq_false c8
       clear c8
       have H' := Aside0.mk H
       clear H
       have p613 : 0 ≤ (x7_1 : Int) := of_decide_eq_true (by first | (with_reducible assumption) | assumption)
       have q613 : x7_1 < (l0.length : Int) := of_decide_eq_true (by first | (with_reducible assumption) | assumption)
       obtain ⟨ad613, e613, hx613_0, hx613_1, hx613_2, hx613_3⟩ := at_T36 HR0.out x7_1 p613 q613
       cases e613
       replace hx613_0 := (HB.out.cell (World.block_lt_of_cell? w _ hx613_0)).trans hx613_0
       replace hx613_1 := (HB.out.cell (World.block_lt_of_cell? w _ hx613_1)).trans hx613_1
       replace hx613_2 := (HB.out.cell (World.block_lt_of_cell? w _ hx613_2)).trans hx613_2
       replace hx613_3 := (HB.out.cell (World.block_lt_of_cell? w _ hx613_3)).trans hx613_3
       replace p613 := eq_true p613
       replace q613 := eq_true q613
       have hcz12_0 : wr.cell? ⟨gb612, 0, none⟩ = some (.string a1_0) := (blk_cell BK612.out 0).trans rfl
       have hcz12_1 : wr.cell? ⟨gb612, 1, none⟩ = some (.int .i64 a1_1) := (blk_cell BK612.out 1).trans rfl
       have hcz12_2 : wr.cell? ⟨gb612, 2, none⟩ = some (.bool a1_2) := (blk_cell BK612.out 2).trans rfl
       have hcz12_3 : wr.cell? ⟨gb612, 3, none⟩ = some (.string a1_3) := (blk_cell BK612.out 3).trans rfl
       have hfz12_0 := blk_frozen BK612.out 0
       have hfz12_1 := blk_frozen BK612.out 1
       have hfz12_2 := blk_frozen BK612.out 2
       have hfz12_3 := blk_frozen BK612.out 3
       have p614 : 0 ≤ (x7_1 : Int) := of_decide_eq_true (by first | (with_reducible assumption) | assumption)
       have q614 : x7_1 < (l0.length : Int) := of_decide_eq_true (by first | (with_reducible assumption) | assumption)
       obtain ⟨ad614, e614, hx614_0, hx614_1, hx614_2, hx614_3⟩ := at_T36 HR0.out x7_1 p614 q614
       obtain rfl : ad613 = ad614 := (by injection e614)
       replace hx614_0 := (HB.out.cell (World.block_lt_of_cell? w _ hx614_0)).trans hx614_0
       replace hx614_1 := (HB.out.cell (World.block_lt_of_cell? w _ hx614_1)).trans hx614_1
       replace hx614_2 := (HB.out.cell (World.block_lt_of_cell? w _ hx614_2)).trans hx614_2
       replace hx614_3 := (HB.out.cell (World.block_lt_of_cell? w _ hx614_3)).trans hx614_3
       replace p614 := eq_true p614
       replace q614 := eq_true q614
       go_wp2
       repeat (go_quiet (fail); try go_wp2)
       go_roundg k1
       case measure => have := HK1.out; omega
       case rel => exact ⟨(wrap64 (x7_1 + 1)), (by first | rfl | (simp; done) | (simp [*]; done)), H', ⟨by have := HK1.out; omega⟩, ⟨by (with_reducible repeat (first | refine blk_drewN ?_ _ | refine blk_drew ?_ | refine blk_alloc ?_ _)); exact BK612.out⟩, ⟨by repeat (first | (with_reducible first | exact HB.out | apply below_alloc | apply pw_below_drewN | apply below_drew1 | refine below_set ?_ GE612.out) | exact HB.out)⟩⟩
     ·rw [if_neg c7] at H
      have c7b0 : (((rd_T36 l0 x7_1).f0).toList == a1_0.toList) = false := beq_eq_false_iff_ne.mpr c7
      have c7b1 : (((rd_T36 l0 x7_1).f0).toList != a1_0.toList) = true := bne_iff_ne.mpr c7
      have H' := Aside0.mk H
      clear H
      have p613 : 0 ≤ (x7_1 : Int) := of_decide_eq_true (by first | (with_reducible assumption) | assumption)
      have q613 : x7_1 < (l0.length : Int) := of_decide_eq_true (by first | (with_reducible assumption) | assumption)
      obtain ⟨ad613, e613, hx613_0, hx613_1, hx613_2, hx613_3⟩ := at_T36 HR0.out x7_1 p613 q613
      cases e613
      replace hx613_0 := (HB.out.cell (World.block_lt_of_cell? w _ hx613_0)).trans hx613_0
      replace hx613_1 := (HB.out.cell (World.block_lt_of_cell? w _ hx613_1)).trans hx613_1
      replace hx613_2 := (HB.out.cell (World.block_lt_of_cell? w _ hx613_2)).trans hx613_2
      replace hx613_3 := (HB.out.cell (World.block_lt_of_cell? w _ hx613_3)).trans hx613_3
      replace p613 := eq_true p613
      replace q613 := eq_true q613
      have hcz13_0 : wr.cell? ⟨gb612, 0, none⟩ = some (.string a1_0) := (blk_cell BK612.out 0).trans rfl
      have hcz13_1 : wr.cell? ⟨gb612, 1, none⟩ = some (.int .i64 a1_1) := (blk_cell BK612.out 1).trans rfl
      have hcz13_2 : wr.cell? ⟨gb612, 2, none⟩ = some (.bool a1_2) := (blk_cell BK612.out 2).trans rfl
      have hcz13_3 : wr.cell? ⟨gb612, 3, none⟩ = some (.string a1_3) := (blk_cell BK612.out 3).trans rfl
      have hfz13_0 := blk_frozen BK612.out 0
      have hfz13_1 := blk_frozen BK612.out 1
      have hfz13_2 := blk_frozen BK612.out 2
      have hfz13_3 := blk_frozen BK612.out 3
      go_wp2
      repeat (go_quiet (fail); try go_wp2)
      go_roundg k1
      case measure => have := HK1.out; omega
      case rel => exact ⟨(wrap64 (x7_1 + 1)), (by first | rfl | (simp; done) | (simp [*]; done)), H', ⟨by have := HK1.out; omega⟩, ⟨by (with_reducible repeat (first | refine blk_drewN ?_ _ | refine blk_drew ?_ | refine blk_alloc ?_ _)); exact BK612.out⟩, ⟨by repeat (first | (with_reducible first | exact HB.out | apply below_alloc | apply pw_below_drewN | apply below_drew1 | refine below_set ?_ GE612.out) | exact HB.out)⟩⟩
    ·rw [if_neg c6] at H
     exact absurd H (by simp)
   ·rw [if_neg c5] at H
    have c5b0 : decide (x7_1 < (l0.length : Int)) = false := decide_eq_false c5
    clear c5
    obtain rfl := Option.some.inj H
    have hcz14_0 : wr.cell? ⟨gb612, 0, none⟩ = some (.string a1_0) := (blk_cell BK612.out 0).trans rfl
    have hcz14_1 : wr.cell? ⟨gb612, 1, none⟩ = some (.int .i64 a1_1) := (blk_cell BK612.out 1).trans rfl
    have hcz14_2 : wr.cell? ⟨gb612, 2, none⟩ = some (.bool a1_2) := (blk_cell BK612.out 2).trans rfl
    have hcz14_3 : wr.cell? ⟨gb612, 3, none⟩ = some (.string a1_3) := (blk_cell BK612.out 3).trans rfl
    have hfz14_0 := blk_frozen BK612.out 0
    have hfz14_1 := blk_frozen BK612.out 1
    have hfz14_2 := blk_frozen BK612.out 2
    have hfz14_3 := blk_frozen BK612.out 3
    go_wp2
    repeat (go_quiet (fail); try go_wp2)
    go_ret
    exact ⟨by first | rfl | (simp [errW_none, errW_some] <;> rfl) | (simp [*, errW_none, errW_some] <;> rfl), by repeat (first | (with_reducible first | exact HB.out | apply below_alloc | apply pw_below_drewN | apply below_drew1 | refine below_set ?_ GE612.out) | exact HB.out)⟩

end Go.Proofs.Ythdoanbadhfhjaa.PAll
