-- Laid by ownprint.py (a program of the session, in wip/tools), out of the translation: Lean checks it.
import Derived.Test.YthdoanbadhfhjaaPAllx0
import Derived.Test.YthdoanbadhfhjaaPAllx1
import Derived.Test.YthdoanbadhfhjaaGv
namespace Go.Proofs.Ythdoanbadhfhjaa.PAll
open Go.RowKit Go.Proofs.YthdoanbadhfhjaaW.PrintWords Go.Proofs.YthdoanbadhfhjaaW.PrintLast Go.Proofs.YthdoanbadhfhjaaW.PrintMore
attribute [local go_sem] max2_int min2_int max_two min_two max_three min_three max_four min_four   -- for this text's walks alone
set_option linter.unusedVariables false
set_option linter.unusedSimpArgs false

attribute [local go_sem high] eqA36
/-! ### moultlaw12_has: function 21 -/
mutual
def moultlaw12_has.l0 : Nat → List (List (S36)) → Int → ByteArray → Int → Bool → ByteArray → Option (Bool)
 | 0, _, _, _, _, _, _ => none
 | k + 1, x0, x5, x460000, x460001, x460002, x460003 => if x5 < (x0.length : Int) then (moultlaw12_has.l1 k x0 x5 0 x460000 x460001 x460002 x460003) else (some false)
def moultlaw12_has.l1 : Nat → List (List (S36)) → Int → Int → ByteArray → Int → Bool → ByteArray → Option (Bool)
 | 0, _, _, _, _, _, _, _ => none
 | k + 1, x0, x5, x6, x460000, x460001, x460002, x460003 => if 0 ≤ x5 then (if x5 < (x0.length : Int) then (if x6 < ((rd_L4 x0 x5).length : Int) then (if 0 ≤ x6 then (if ((((rd_T36 (rd_L4 x0 x5) x6).f0).toList) == x460000.toList && (((rd_T36 (rd_L4 x0 x5) x6).f1) == x460001 && (((rd_T36 (rd_L4 x0 x5) x6).f2) == x460002 && ((((rd_T36 (rd_L4 x0 x5) x6).f3).toList) == x460003.toList)))) = true then (some true) else (moultlaw12_has.l1 k x0 x5 (wrap64 (x6 + 1)) x460000 x460001 x460002 x460003)) else (none)) else (moultlaw12_has.l0 k x0 (wrap64 (x5 + 1)) x460000 x460001 x460002 x460003)) else (none)) else (none)
end
def moultlaw12_has.f (k : Nat) (l0 : List (List (S36))) (a1_0 : ByteArray) (a1_1 : Int) (a1_2 : Bool) (a1_3 : ByteArray) : Option (Bool) := moultlaw12_has.l0 k l0 0 a1_0 a1_1 a1_2 a1_3
theorem moultlaw12_has.mono_l : ∀ k, (∀ y0 y1 y2 y3 y4 y5, LeO (moultlaw12_has.l0 k y0 y1 y2 y3 y4 y5) (moultlaw12_has.l0 (k + 1) y0 y1 y2 y3 y4 y5)) ∧ (∀ y0 y1 y2 y3 y4 y5 y6, LeO (moultlaw12_has.l1 k y0 y1 y2 y3 y4 y5 y6) (moultlaw12_has.l1 (k + 1) y0 y1 y2 y3 y4 y5 y6))
 | 0 => ⟨fun _ _ _ _ _ _ r h => by simp [moultlaw12_has.l0] at h, fun _ _ _ _ _ _ _ r h => by simp [moultlaw12_has.l1] at h⟩
 | k + 1 => by
  obtain ⟨ih0, ih1⟩ := moultlaw12_has.mono_l k
  refine ⟨?_, ?_⟩
  ·intro y0 y1 y2 y3 y4 y5
   unfold moultlaw12_has.l0
   repeat' first
   | (with_reducible exact ih0 _ _ _ _ _ _)
   | (with_reducible exact ih1 _ _ _ _ _ _ _)
   | (with_reducible exact LeO.refl _)
   | (with_reducible exact LeO.none _)
   | (with_reducible refine LeO.ite ?_ ?_)
   | (with_reducible refine LeO.bind ?_ (fun _ => ?_))
   | exact ih0 _ _ _ _ _ _
   | exact ih1 _ _ _ _ _ _ _
   | exact LeO.none _
   | refine LeO.ite ?_ ?_
   | refine LeO.bind ?_ (fun _ => ?_)
  ·intro y0 y1 y2 y3 y4 y5 y6
   unfold moultlaw12_has.l1
   repeat' first
   | (with_reducible exact ih0 _ _ _ _ _ _)
   | (with_reducible exact ih1 _ _ _ _ _ _ _)
   | (with_reducible exact LeO.refl _)
   | (with_reducible exact LeO.none _)
   | (with_reducible refine LeO.ite ?_ ?_)
   | (with_reducible refine LeO.bind ?_ (fun _ => ?_))
   | exact ih0 _ _ _ _ _ _
   | exact ih1 _ _ _ _ _ _ _
   | exact LeO.none _
   | refine LeO.ite ?_ ?_
   | refine LeO.bind ?_ (fun _ => ?_)
theorem moultlaw12_has.mono : ∀ a0 a1 a2 a3 a4 k, LeO (moultlaw12_has.f k a0 a1 a2 a3 a4) (moultlaw12_has.f (k + 1) a0 a1 a2 a3 a4) := by
 intro a0 a1 a2 a3 a4 k
 obtain ⟨ih0, ih1⟩ := moultlaw12_has.mono_l k
 unfold moultlaw12_has.f
 repeat' first
   | (with_reducible exact ih0 _ _ _ _ _ _)
   | (with_reducible exact ih1 _ _ _ _ _ _ _)
   | (with_reducible exact LeO.refl _)
   | (with_reducible exact LeO.none _)
   | (with_reducible refine LeO.ite ?_ ?_)
   | (with_reducible refine LeO.bind ?_ (fun _ => ?_))
   | exact ih0 _ _ _ _ _ _
   | exact ih1 _ _ _ _ _ _ _
   | exact LeO.none _
   | refine LeO.ite ?_ ?_
   | refine LeO.bind ?_ (fun _ => ?_)
set_option maxHeartbeats 8000000 in
set_option maxRecDepth 100000 in
theorem moultlaw12_has.calls (k : Nat) (A0 : Option Addr) (c0 : Nat) (l0 : List (List (S36))) (a1_0 : ByteArray) (a1_1 : Int) (a1_2 : Bool) (a1_3 : ByteArray) (r : Bool) (w : World) (hr0 : Kd.C (Kd.slice 36 k36) w A0 l0.length l0) (hc0 : l0.length ≤ c0) (h : moultlaw12_has.f k l0 a1_0 a1_1 a1_2 a1_3 = some r) :
  Calls Try.prog 21 #[.slice A0 l0.length c0, .agg #[.string a1_0, .int .i64 a1_1, .bool a1_2, .string a1_3]] w fun e w' => e = .returned (.bool r) ∧ Below w.heap.size w w' := by
 have hu36 := Try.underlying36
 have HR0 := Aside0.mk hr0
 have HC0 := Aside0.mk hc0
 clear hr0 hc0
 have HB := Aside0.mk (Below.refl w.heap.size w)
 have H : (moultlaw12_has.l0 k l0 0 a1_0 a1_1 a1_2 a1_3) = some r := h
 clear h
 have H' := Aside0.mk H
 clear H
 go_enter Try.func21, Try.ntmps21
 go_wp2_with (first | ((with_reducible refine gate_dst (N := 3) rfl ?_); refine box_event ?hg (N := 3) ?hd (cs := #[.string a1_0, .int .i64 a1_1, .bool a1_2, .string a1_3]) (t := 36) ?hr ?_; (case hd => rfl); (case hg => rfl); (case hr => first | (go_simp; done) | (go_simp; rfl)); intro gb459 hg w3 hbox hb; have n0_ := Aside0.mk (below_step HB.out hb); have n1_ := Aside0.mk (hbox); have n2_ := Aside0.mk ((by rw [hg]; exact (below_size HB.out) : w.heap.size ≤ gb459)); have n3_ := Aside0.mk ((by rw [hg]; exact (below_size HB.out) : w.heap.size ≤ gb459)); clear HB; have HB := n0_; have BK459 := n1_; have GW459 := n2_; have GE459 := n3_; clear n0_ n1_ n2_ n3_; clear hb hbox hg))
 repeat (go_quiet (first | ((with_reducible refine gate_dst (N := 3) rfl ?_); refine box_event ?hg (N := 3) ?hd (cs := #[.string a1_0, .int .i64 a1_1, .bool a1_2, .string a1_3]) (t := 36) ?hr ?_; (case hd => rfl); (case hg => rfl); (case hr => first | (go_simp; done) | (go_simp; rfl)); intro gb459 hg w3 hbox hb; have n0_ := Aside0.mk (below_step HB.out hb); have n1_ := Aside0.mk (hbox); have n2_ := Aside0.mk ((by rw [hg]; exact (below_size HB.out) : w.heap.size ≤ gb459)); have n3_ := Aside0.mk ((by rw [hg]; exact (below_size HB.out) : w.heap.size ≤ gb459)); clear HB; have HB := n0_; have BK459 := n1_; have GW459 := n2_; have GE459 := n3_; clear n0_ n1_ n2_ n3_; clear hb hbox hg)); try go_wp2_with (first | ((with_reducible refine gate_dst (N := 3) rfl ?_); refine box_event ?hg (N := 3) ?hd (cs := #[.string a1_0, .int .i64 a1_1, .bool a1_2, .string a1_3]) (t := 36) ?hr ?_; (case hd => rfl); (case hg => rfl); (case hr => first | (go_simp; done) | (go_simp; rfl)); intro gb459 hg w3 hbox hb; have n0_ := Aside0.mk (below_step HB.out hb); have n1_ := Aside0.mk (hbox); have n2_ := Aside0.mk ((by rw [hg]; exact (below_size HB.out) : w.heap.size ≤ gb459)); have n3_ := Aside0.mk ((by rw [hg]; exact (below_size HB.out) : w.heap.size ≤ gb459)); clear HB; have HB := n0_; have BK459 := n1_; have GW459 := n2_; have GE459 := n3_; clear n0_ n1_ n2_ n3_; clear hb hbox hg)))
 go_loopg [5] k (fun kq v5 w' => ∃ (x5_1 : Int), v5 = .int .i64 x5_1 ∧ Aside0 (moultlaw12_has.l0 kq l0 x5_1 a1_0 a1_1 a1_2 a1_3 = some r) ∧ Aside0 (kq ≤ k) ∧ Aside0 (w'.heap[gb459]? = some (.cells #[.string a1_0, .int .i64 a1_1, .bool a1_2, .string a1_3] 36 (0, 0))) ∧ Aside0 (Below w.heap.size w w'))
 case atStart => exact ⟨(0), (by first | rfl | (simp; done) | (simp [*]; done)), H', ⟨Nat.le_refl _⟩, ⟨by (with_reducible repeat (first | refine blk_drewN ?_ _ | refine blk_drew ?_ | refine blk_alloc ?_ _)); exact BK459.out⟩, ⟨by repeat (first | (with_reducible first | exact HB.out | apply below_alloc | apply pw_below_drewN | apply below_drew1 | refine below_set ?_ GE459.out) | exact HB.out)⟩⟩
 case round =>
  clear H'
  try clear c2
  try clear p2
  obtain ⟨x5_1, rfl, HA, HK1, BK459, HB⟩ := hrel
  cases gk with
  | zero => exact absurd HA.out (by simp [moultlaw12_has.l0])
  | succ k1 =>
   have H := HA.out
   clear HA
   simp only [moultlaw12_has.l0] at H
   by_cases c4 : x5_1 < (l0.length : Int)
   ·rw [if_pos c4] at H
    have c4b0 : decide (x5_1 < (l0.length : Int)) = true := decide_eq_true c4
    clear c4
    have H' := Aside0.mk H
    clear H
    go_wp2
    repeat (go_quiet (fail); try go_wp2)
    go_loopg [6] k1 (fun kq v6 w' => ∃ (x6_2 : Int), v6 = .int .i64 x6_2 ∧ Aside0 (moultlaw12_has.l1 kq l0 x5_1 x6_2 a1_0 a1_1 a1_2 a1_3 = some r) ∧ Aside0 (kq ≤ k1) ∧ Aside0 (w'.heap[gb459]? = some (.cells #[.string a1_0, .int .i64 a1_1, .bool a1_2, .string a1_3] 36 (0, 0))) ∧ Aside0 (Below w.heap.size w w'))
    case atStart => exact ⟨(0), (by first | rfl | (simp; done) | (simp [*]; done)), H', ⟨Nat.le_refl _⟩, ⟨by (with_reducible repeat (first | refine blk_drewN ?_ _ | refine blk_drew ?_ | refine blk_alloc ?_ _)); exact BK459.out⟩, ⟨by repeat (first | (with_reducible first | exact HB.out | apply below_alloc | apply pw_below_drewN | apply below_drew1 | refine below_set ?_ GE459.out) | exact HB.out)⟩⟩
    case round =>
     clear H'
     try clear c2
     try clear p2
     try clear c4
     try clear c4b0
     try clear p2
     obtain ⟨x6_2, rfl, HA, HK2, BK459, HB⟩ := hrel
     cases gk with
     | zero => exact absurd HA.out (by simp [moultlaw12_has.l1])
     | succ k2 =>
      have H := HA.out
      clear HA
      simp only [moultlaw12_has.l1] at H
      by_cases c5 : 0 ≤ x5_1
      ·rw [if_pos c5] at H
       have c5b0 : decide (0 ≤ x5_1) = true := decide_eq_true c5
       clear c5
       by_cases c6 : x5_1 < (l0.length : Int)
       ·rw [if_pos c6] at H
        have c6b0 : decide (x5_1 < (l0.length : Int)) = true := decide_eq_true c6
        clear c6
        by_cases c7 : x6_2 < ((rd_L4 l0 x5_1).length : Int)
        ·rw [if_pos c7] at H
         have c7b0 : decide (x6_2 < ((rd_L4 l0 x5_1).length : Int)) = true := decide_eq_true c7
         clear c7
         by_cases c8 : 0 ≤ x6_2
         ·rw [if_pos c8] at H
          have c8b0 : decide (0 ≤ x6_2) = true := decide_eq_true c8
          clear c8
          by_cases c9 : ((((rd_T36 (rd_L4 l0 x5_1) x6_2).f0).toList) == a1_0.toList && (((rd_T36 (rd_L4 l0 x5_1) x6_2).f1) == a1_1 && (((rd_T36 (rd_L4 l0 x5_1) x6_2).f2) == a1_2 && ((((rd_T36 (rd_L4 l0 x5_1) x6_2).f3).toList) == a1_3.toList)))) = true
          ·rw [if_pos c9] at H
           have c9b0 : ((((rd_T36 (rd_L4 l0 x5_1) x6_2).f0).toList) == a1_0.toList && (((rd_T36 (rd_L4 l0 x5_1) x6_2).f1) == a1_1 && (((rd_T36 (rd_L4 l0 x5_1) x6_2).f2) == a1_2 && ((((rd_T36 (rd_L4 l0 x5_1) x6_2).f3).toList) == a1_3.toList)))) = true := c9
           (try (have c9p : ((((rd_T36 (rd_L4 l0 x5_1) x6_2).f0).toList) = a1_0.toList ∧ (((rd_T36 (rd_L4 l0 x5_1) x6_2).f1) = a1_1 ∧ (((rd_T36 (rd_L4 l0 x5_1) x6_2).f2) = a1_2 ∧ (((rd_T36 (rd_L4 l0 x5_1) x6_2).f3).toList) = a1_3.toList))) = True := eq_true (by simpa using c9)))
           clear c9
           obtain rfl := Option.some.inj H
           have p460 : 0 ≤ (x5_1 : Int) := of_decide_eq_true (by first | (with_reducible assumption) | assumption)
           have q460 : x5_1 < (l0.length : Int) := of_decide_eq_true (by first | (with_reducible assumption) | assumption)
           obtain ⟨ad460, A460_0, c460_0, e460, hx460_0, hl460_0, hi460_0⟩ := at_L4 HR0.out x5_1 p460 q460
           cases e460
           replace hx460_0 := (HB.out.cell (World.block_lt_of_cell? w _ hx460_0)).trans hx460_0
           have HR460_0 := Aside0.mk hi460_0
           have HC460_0 := Aside0.mk hl460_0
           clear hi460_0 hl460_0
           replace p460 := eq_true p460
           replace q460 := eq_true q460
           have p461 : 0 ≤ (x5_1 : Int) := of_decide_eq_true (by first | (with_reducible assumption) | assumption)
           have q461 : x5_1 < (l0.length : Int) := of_decide_eq_true (by first | (with_reducible assumption) | assumption)
           obtain ⟨ad461, A461_0, c461_0, e461, hx461_0, hl461_0, hi461_0⟩ := at_L4 HR0.out x5_1 p461 q461
           obtain rfl : ad460 = ad461 := (by injection e461)
           replace hx461_0 := (HB.out.cell (World.block_lt_of_cell? w _ hx461_0)).trans hx461_0
           have HR461_0 := Aside0.mk hi461_0
           have HC461_0 := Aside0.mk hl461_0
           clear hi461_0 hl461_0
           replace p461 := eq_true p461
           replace q461 := eq_true q461
           have ea_ := Option.some.inj (hx460_0.symm.trans hx461_0)
           injection ea_ with ea_ en_ ec_
           subst ea_
           subst ec_
           clear en_
           have p462 : 0 ≤ (x6_2 : Int) := of_decide_eq_true (by first | (with_reducible assumption) | assumption)
           have q462 : x6_2 < ((rd_L4 l0 x5_1).length : Int) := of_decide_eq_true (by first | (with_reducible assumption) | assumption)
           obtain ⟨ad462, e462, hx462_0, hx462_1, hx462_2, hx462_3⟩ := at_T36 HR461_0.out x6_2 p462 q462
           cases e462
           replace hx462_0 := (HB.out.cell (World.block_lt_of_cell? w _ hx462_0)).trans hx462_0
           replace hx462_1 := (HB.out.cell (World.block_lt_of_cell? w _ hx462_1)).trans hx462_1
           replace hx462_2 := (HB.out.cell (World.block_lt_of_cell? w _ hx462_2)).trans hx462_2
           replace hx462_3 := (HB.out.cell (World.block_lt_of_cell? w _ hx462_3)).trans hx462_3
           replace p462 := eq_true p462
           replace q462 := eq_true q462
           have hcz10_0 : wr.cell? ⟨gb459, 0, none⟩ = some (.string a1_0) := (blk_cell BK459.out 0).trans rfl
           have hcz10_1 : wr.cell? ⟨gb459, 1, none⟩ = some (.int .i64 a1_1) := (blk_cell BK459.out 1).trans rfl
           have hcz10_2 : wr.cell? ⟨gb459, 2, none⟩ = some (.bool a1_2) := (blk_cell BK459.out 2).trans rfl
           have hcz10_3 : wr.cell? ⟨gb459, 3, none⟩ = some (.string a1_3) := (blk_cell BK459.out 3).trans rfl
           have hfz10_0 := blk_frozen BK459.out 0
           have hfz10_1 := blk_frozen BK459.out 1
           have hfz10_2 := blk_frozen BK459.out 2
           have hfz10_3 := blk_frozen BK459.out 3
           go_wp2
           repeat (go_quiet (fail); try go_wp2)
           go_ret
           exact ⟨by first | rfl | (simp [errW_none, errW_some] <;> rfl) | (simp [*, errW_none, errW_some] <;> rfl), by repeat (first | (with_reducible first | exact HB.out | apply below_alloc | apply pw_below_drewN | apply below_drew1 | refine below_set ?_ GE459.out) | exact HB.out)⟩
          ·rw [if_neg c9] at H
           have c9b0 : ((((rd_T36 (rd_L4 l0 x5_1) x6_2).f0).toList) == a1_0.toList && (((rd_T36 (rd_L4 l0 x5_1) x6_2).f1) == a1_1 && (((rd_T36 (rd_L4 l0 x5_1) x6_2).f2) == a1_2 && ((((rd_T36 (rd_L4 l0 x5_1) x6_2).f3).toList) == a1_3.toList)))) = false := by simpa using c9
           (try (have c9p : ((((rd_T36 (rd_L4 l0 x5_1) x6_2).f0).toList) = a1_0.toList ∧ (((rd_T36 (rd_L4 l0 x5_1) x6_2).f1) = a1_1 ∧ (((rd_T36 (rd_L4 l0 x5_1) x6_2).f2) = a1_2 ∧ (((rd_T36 (rd_L4 l0 x5_1) x6_2).f3).toList) = a1_3.toList))) = False := eq_false (by simpa using c9)))
           clear c9
           have H' := Aside0.mk H
           clear H
           have p460 : 0 ≤ (x5_1 : Int) := of_decide_eq_true (by first | (with_reducible assumption) | assumption)
           have q460 : x5_1 < (l0.length : Int) := of_decide_eq_true (by first | (with_reducible assumption) | assumption)
           obtain ⟨ad460, A460_0, c460_0, e460, hx460_0, hl460_0, hi460_0⟩ := at_L4 HR0.out x5_1 p460 q460
           cases e460
           replace hx460_0 := (HB.out.cell (World.block_lt_of_cell? w _ hx460_0)).trans hx460_0
           have HR460_0 := Aside0.mk hi460_0
           have HC460_0 := Aside0.mk hl460_0
           clear hi460_0 hl460_0
           replace p460 := eq_true p460
           replace q460 := eq_true q460
           have p461 : 0 ≤ (x5_1 : Int) := of_decide_eq_true (by first | (with_reducible assumption) | assumption)
           have q461 : x5_1 < (l0.length : Int) := of_decide_eq_true (by first | (with_reducible assumption) | assumption)
           obtain ⟨ad461, A461_0, c461_0, e461, hx461_0, hl461_0, hi461_0⟩ := at_L4 HR0.out x5_1 p461 q461
           obtain rfl : ad460 = ad461 := (by injection e461)
           replace hx461_0 := (HB.out.cell (World.block_lt_of_cell? w _ hx461_0)).trans hx461_0
           have HR461_0 := Aside0.mk hi461_0
           have HC461_0 := Aside0.mk hl461_0
           clear hi461_0 hl461_0
           replace p461 := eq_true p461
           replace q461 := eq_true q461
           have ea_ := Option.some.inj (hx460_0.symm.trans hx461_0)
           injection ea_ with ea_ en_ ec_
           subst ea_
           subst ec_
           clear en_
           have p462 : 0 ≤ (x6_2 : Int) := of_decide_eq_true (by first | (with_reducible assumption) | assumption)
           have q462 : x6_2 < ((rd_L4 l0 x5_1).length : Int) := of_decide_eq_true (by first | (with_reducible assumption) | assumption)
           obtain ⟨ad462, e462, hx462_0, hx462_1, hx462_2, hx462_3⟩ := at_T36 HR461_0.out x6_2 p462 q462
           cases e462
           replace hx462_0 := (HB.out.cell (World.block_lt_of_cell? w _ hx462_0)).trans hx462_0
           replace hx462_1 := (HB.out.cell (World.block_lt_of_cell? w _ hx462_1)).trans hx462_1
           replace hx462_2 := (HB.out.cell (World.block_lt_of_cell? w _ hx462_2)).trans hx462_2
           replace hx462_3 := (HB.out.cell (World.block_lt_of_cell? w _ hx462_3)).trans hx462_3
           replace p462 := eq_true p462
           replace q462 := eq_true q462
           have hcz11_0 : wr.cell? ⟨gb459, 0, none⟩ = some (.string a1_0) := (blk_cell BK459.out 0).trans rfl
           have hcz11_1 : wr.cell? ⟨gb459, 1, none⟩ = some (.int .i64 a1_1) := (blk_cell BK459.out 1).trans rfl
           have hcz11_2 : wr.cell? ⟨gb459, 2, none⟩ = some (.bool a1_2) := (blk_cell BK459.out 2).trans rfl
           have hcz11_3 : wr.cell? ⟨gb459, 3, none⟩ = some (.string a1_3) := (blk_cell BK459.out 3).trans rfl
           have hfz11_0 := blk_frozen BK459.out 0
           have hfz11_1 := blk_frozen BK459.out 1
           have hfz11_2 := blk_frozen BK459.out 2
           have hfz11_3 := blk_frozen BK459.out 3
           go_wp2
           repeat (go_quiet (fail); try go_wp2)
           go_roundg k2
           case measure => have := HK1.out; have := HK2.out; omega
           case rel => exact ⟨(wrap64 (x6_2 + 1)), (by first | rfl | (simp; done) | (simp [*]; done)), H', ⟨by have := HK1.out; have := HK2.out; omega⟩, ⟨by (with_reducible repeat (first | refine blk_drewN ?_ _ | refine blk_drew ?_ | refine blk_alloc ?_ _)); exact BK459.out⟩, ⟨by repeat (first | (with_reducible first | exact HB.out | apply below_alloc | apply pw_below_drewN | apply below_drew1 | refine below_set ?_ GE459.out) | exact HB.out)⟩⟩
         ·rw [if_neg c8] at H
          exact absurd H (by simp)
        ·rw [if_neg c7] at H
         have c7b0 : decide (x6_2 < ((rd_L4 l0 x5_1).length : Int)) = false := decide_eq_false c7
         clear c7
         have H' := Aside0.mk H
         clear H
         have p460 : 0 ≤ (x5_1 : Int) := of_decide_eq_true (by first | (with_reducible assumption) | assumption)
         have q460 : x5_1 < (l0.length : Int) := of_decide_eq_true (by first | (with_reducible assumption) | assumption)
         obtain ⟨ad460, A460_0, c460_0, e460, hx460_0, hl460_0, hi460_0⟩ := at_L4 HR0.out x5_1 p460 q460
         cases e460
         replace hx460_0 := (HB.out.cell (World.block_lt_of_cell? w _ hx460_0)).trans hx460_0
         have HR460_0 := Aside0.mk hi460_0
         have HC460_0 := Aside0.mk hl460_0
         clear hi460_0 hl460_0
         replace p460 := eq_true p460
         replace q460 := eq_true q460
         go_wp2
         repeat (go_quiet (fail); try go_wp2)
         go_roundg k2
         case measure => have := HK1.out; have := HK2.out; omega
         case rel => exact ⟨(wrap64 (x5_1 + 1)), (by first | rfl | (simp; done) | (simp [*]; done)), H', ⟨by have := HK1.out; have := HK2.out; omega⟩, ⟨by (with_reducible repeat (first | refine blk_drewN ?_ _ | refine blk_drew ?_ | refine blk_alloc ?_ _)); exact BK459.out⟩, ⟨by repeat (first | (with_reducible first | exact HB.out | apply below_alloc | apply pw_below_drewN | apply below_drew1 | refine below_set ?_ GE459.out) | exact HB.out)⟩⟩
       ·rw [if_neg c6] at H
        exact absurd H (by simp)
      ·rw [if_neg c5] at H
       exact absurd H (by simp)
   ·rw [if_neg c4] at H
    have c4b0 : decide (x5_1 < (l0.length : Int)) = false := decide_eq_false c4
    clear c4
    obtain rfl := Option.some.inj H
    go_wp2
    repeat (go_quiet (fail); try go_wp2)
    go_ret
    exact ⟨by first | rfl | (simp [errW_none, errW_some] <;> rfl) | (simp [*, errW_none, errW_some] <;> rfl), by repeat (first | (with_reducible first | exact HB.out | apply below_alloc | apply pw_below_drewN | apply below_drew1 | refine below_set ?_ GE459.out) | exact HB.out)⟩

/-! ### moultlaw12_known: function 22 -/
def moultlaw12_known.l0 : Nat → List (S36) → Int → ByteArray → Int → Bool → ByteArray → Option (Bool)
 | 0, _, _, _, _, _, _ => none
 | k + 1, x0, x5, x464000, x464001, x464002, x464003 => if x5 < (x0.length : Int) then (if 0 ≤ x5 then (if ((rd_T36 x0 x5).f0).toList = x464000.toList then (if ((rd_T36 x0 x5).f1) = x464001 then (some true) else (moultlaw12_known.l0 k x0 (wrap64 (x5 + 1)) x464000 x464001 x464002 x464003)) else (moultlaw12_known.l0 k x0 (wrap64 (x5 + 1)) x464000 x464001 x464002 x464003)) else (none)) else (some false)
def moultlaw12_known.f (k : Nat) (l0 : List (S36)) (a1_0 : ByteArray) (a1_1 : Int) (a1_2 : Bool) (a1_3 : ByteArray) : Option (Bool) := moultlaw12_known.l0 k l0 0 a1_0 a1_1 a1_2 a1_3
theorem moultlaw12_known.mono_l : ∀ k, (∀ y0 y1 y2 y3 y4 y5, LeO (moultlaw12_known.l0 k y0 y1 y2 y3 y4 y5) (moultlaw12_known.l0 (k + 1) y0 y1 y2 y3 y4 y5))
 | 0 => fun _ _ _ _ _ _ r h => by simp [moultlaw12_known.l0] at h
 | k + 1 => by
  have ih0 := moultlaw12_known.mono_l k
  ·intro y0 y1 y2 y3 y4 y5
   unfold moultlaw12_known.l0
   repeat' first
   | (with_reducible exact ih0 _ _ _ _ _ _)
   | (with_reducible exact LeO.refl _)
   | (with_reducible exact LeO.none _)
   | (with_reducible refine LeO.ite ?_ ?_)
   | (with_reducible refine LeO.bind ?_ (fun _ => ?_))
   | exact ih0 _ _ _ _ _ _
   | exact LeO.none _
   | refine LeO.ite ?_ ?_
   | refine LeO.bind ?_ (fun _ => ?_)
theorem moultlaw12_known.mono : ∀ a0 a1 a2 a3 a4 k, LeO (moultlaw12_known.f k a0 a1 a2 a3 a4) (moultlaw12_known.f (k + 1) a0 a1 a2 a3 a4) := by
 intro a0 a1 a2 a3 a4 k
 have ih0 := moultlaw12_known.mono_l k
 unfold moultlaw12_known.f
 repeat' first
   | (with_reducible exact ih0 _ _ _ _ _ _)
   | (with_reducible exact LeO.refl _)
   | (with_reducible exact LeO.none _)
   | (with_reducible refine LeO.ite ?_ ?_)
   | (with_reducible refine LeO.bind ?_ (fun _ => ?_))
   | exact ih0 _ _ _ _ _ _
   | exact LeO.none _
   | refine LeO.ite ?_ ?_
   | refine LeO.bind ?_ (fun _ => ?_)
set_option maxHeartbeats 8000000 in
set_option maxRecDepth 100000 in
theorem moultlaw12_known.calls (k : Nat) (A0 : Option Addr) (c0 : Nat) (l0 : List (S36)) (a1_0 : ByteArray) (a1_1 : Int) (a1_2 : Bool) (a1_3 : ByteArray) (r : Bool) (w : World) (hr0 : Kd.C k36 w A0 l0.length l0) (hc0 : l0.length ≤ c0) (h : moultlaw12_known.f k l0 a1_0 a1_1 a1_2 a1_3 = some r) :
  Calls Try.prog 22 #[.slice A0 l0.length c0, .agg #[.string a1_0, .int .i64 a1_1, .bool a1_2, .string a1_3]] w fun e w' => e = .returned (.bool r) ∧ Below w.heap.size w w' := by
 have hu36 := Try.underlying36
 have HR0 := Aside0.mk hr0
 have HC0 := Aside0.mk hc0
 clear hr0 hc0
 have HB := Aside0.mk (Below.refl w.heap.size w)
 have H : (moultlaw12_known.l0 k l0 0 a1_0 a1_1 a1_2 a1_3) = some r := h
 clear h
 have H' := Aside0.mk H
 clear H
 go_enter Try.func22, Try.ntmps22
 go_wp2_with (first | ((with_reducible refine gate_dst (N := 3) rfl ?_); refine box_event ?hg (N := 3) ?hd (cs := #[.string a1_0, .int .i64 a1_1, .bool a1_2, .string a1_3]) (t := 36) ?hr ?_; (case hd => rfl); (case hg => rfl); (case hr => first | (go_simp; done) | (go_simp; rfl)); intro gb463 hg w3 hbox hb; have n0_ := Aside0.mk (below_step HB.out hb); have n1_ := Aside0.mk (hbox); have n2_ := Aside0.mk ((by rw [hg]; exact (below_size HB.out) : w.heap.size ≤ gb463)); have n3_ := Aside0.mk ((by rw [hg]; exact (below_size HB.out) : w.heap.size ≤ gb463)); clear HB; have HB := n0_; have BK463 := n1_; have GW463 := n2_; have GE463 := n3_; clear n0_ n1_ n2_ n3_; clear hb hbox hg))
 repeat (go_quiet (first | ((with_reducible refine gate_dst (N := 3) rfl ?_); refine box_event ?hg (N := 3) ?hd (cs := #[.string a1_0, .int .i64 a1_1, .bool a1_2, .string a1_3]) (t := 36) ?hr ?_; (case hd => rfl); (case hg => rfl); (case hr => first | (go_simp; done) | (go_simp; rfl)); intro gb463 hg w3 hbox hb; have n0_ := Aside0.mk (below_step HB.out hb); have n1_ := Aside0.mk (hbox); have n2_ := Aside0.mk ((by rw [hg]; exact (below_size HB.out) : w.heap.size ≤ gb463)); have n3_ := Aside0.mk ((by rw [hg]; exact (below_size HB.out) : w.heap.size ≤ gb463)); clear HB; have HB := n0_; have BK463 := n1_; have GW463 := n2_; have GE463 := n3_; clear n0_ n1_ n2_ n3_; clear hb hbox hg)); try go_wp2_with (first | ((with_reducible refine gate_dst (N := 3) rfl ?_); refine box_event ?hg (N := 3) ?hd (cs := #[.string a1_0, .int .i64 a1_1, .bool a1_2, .string a1_3]) (t := 36) ?hr ?_; (case hd => rfl); (case hg => rfl); (case hr => first | (go_simp; done) | (go_simp; rfl)); intro gb463 hg w3 hbox hb; have n0_ := Aside0.mk (below_step HB.out hb); have n1_ := Aside0.mk (hbox); have n2_ := Aside0.mk ((by rw [hg]; exact (below_size HB.out) : w.heap.size ≤ gb463)); have n3_ := Aside0.mk ((by rw [hg]; exact (below_size HB.out) : w.heap.size ≤ gb463)); clear HB; have HB := n0_; have BK463 := n1_; have GW463 := n2_; have GE463 := n3_; clear n0_ n1_ n2_ n3_; clear hb hbox hg)))
 go_loopg [5] k (fun kq v5 w' => ∃ (x5_1 : Int), v5 = .int .i64 x5_1 ∧ Aside0 (moultlaw12_known.l0 kq l0 x5_1 a1_0 a1_1 a1_2 a1_3 = some r) ∧ Aside0 (kq ≤ k) ∧ Aside0 (w'.heap[gb463]? = some (.cells #[.string a1_0, .int .i64 a1_1, .bool a1_2, .string a1_3] 36 (0, 0))) ∧ Aside0 (Below w.heap.size w w'))
 case atStart => exact ⟨(0), (by first | rfl | (simp; done) | (simp [*]; done)), H', ⟨Nat.le_refl _⟩, ⟨by (with_reducible repeat (first | refine blk_drewN ?_ _ | refine blk_drew ?_ | refine blk_alloc ?_ _)); exact BK463.out⟩, ⟨by repeat (first | (with_reducible first | exact HB.out | apply below_alloc | apply pw_below_drewN | apply below_drew1 | refine below_set ?_ GE463.out) | exact HB.out)⟩⟩
 case round =>
  clear H'
  try clear c2
  try clear p2
  obtain ⟨x5_1, rfl, HA, HK1, BK463, HB⟩ := hrel
  cases gk with
  | zero => exact absurd HA.out (by simp [moultlaw12_known.l0])
  | succ k1 =>
   have H := HA.out
   clear HA
   simp only [moultlaw12_known.l0] at H
   by_cases c4 : x5_1 < (l0.length : Int)
   ·rw [if_pos c4] at H
    have c4b0 : decide (x5_1 < (l0.length : Int)) = true := decide_eq_true c4
    clear c4
    by_cases c5 : 0 ≤ x5_1
    ·rw [if_pos c5] at H
     have c5b0 : decide (0 ≤ x5_1) = true := decide_eq_true c5
     clear c5
     by_cases c6 : ((rd_T36 l0 x5_1).f0).toList = a1_0.toList
     ·rw [if_pos c6] at H
      have c6b0 : (((rd_T36 l0 x5_1).f0).toList == a1_0.toList) = true := beq_iff_eq.mpr c6
      have c6b1 : (((rd_T36 l0 x5_1).f0).toList != a1_0.toList) = false := bne_eq_false_iff_eq.mpr c6
      clear c6
      by_cases c7 : ((rd_T36 l0 x5_1).f1) = a1_1
      ·rw [if_pos c7] at H
       have c7b0 : (((rd_T36 l0 x5_1).f1) == a1_1) = true := beq_iff_eq.mpr c7
       have c7b1 : (((rd_T36 l0 x5_1).f1) != a1_1) = false := bne_eq_false_iff_eq.mpr c7
       clear c7
       obtain rfl := Option.some.inj H
       have p464 : 0 ≤ (x5_1 : Int) := of_decide_eq_true (by first | (with_reducible assumption) | assumption)
       have q464 : x5_1 < (l0.length : Int) := of_decide_eq_true (by first | (with_reducible assumption) | assumption)
       obtain ⟨ad464, e464, hx464_0, hx464_1, hx464_2, hx464_3⟩ := at_T36 HR0.out x5_1 p464 q464
       cases e464
       replace hx464_0 := (HB.out.cell (World.block_lt_of_cell? w _ hx464_0)).trans hx464_0
       replace hx464_1 := (HB.out.cell (World.block_lt_of_cell? w _ hx464_1)).trans hx464_1
       replace hx464_2 := (HB.out.cell (World.block_lt_of_cell? w _ hx464_2)).trans hx464_2
       replace hx464_3 := (HB.out.cell (World.block_lt_of_cell? w _ hx464_3)).trans hx464_3
       replace p464 := eq_true p464
       replace q464 := eq_true q464
       have hcz8_0 : wr.cell? ⟨gb463, 0, none⟩ = some (.string a1_0) := (blk_cell BK463.out 0).trans rfl
       have hcz8_1 : wr.cell? ⟨gb463, 1, none⟩ = some (.int .i64 a1_1) := (blk_cell BK463.out 1).trans rfl
       have hcz8_2 : wr.cell? ⟨gb463, 2, none⟩ = some (.bool a1_2) := (blk_cell BK463.out 2).trans rfl
       have hcz8_3 : wr.cell? ⟨gb463, 3, none⟩ = some (.string a1_3) := (blk_cell BK463.out 3).trans rfl
       have hfz8_0 := blk_frozen BK463.out 0
       have hfz8_1 := blk_frozen BK463.out 1
       have hfz8_2 := blk_frozen BK463.out 2
       have hfz8_3 := blk_frozen BK463.out 3
       have p465 : 0 ≤ (x5_1 : Int) := of_decide_eq_true (by first | (with_reducible assumption) | assumption)
       have q465 : x5_1 < (l0.length : Int) := of_decide_eq_true (by first | (with_reducible assumption) | assumption)
       obtain ⟨ad465, e465, hx465_0, hx465_1, hx465_2, hx465_3⟩ := at_T36 HR0.out x5_1 p465 q465
       obtain rfl : ad464 = ad465 := (by injection e465)
       replace hx465_0 := (HB.out.cell (World.block_lt_of_cell? w _ hx465_0)).trans hx465_0
       replace hx465_1 := (HB.out.cell (World.block_lt_of_cell? w _ hx465_1)).trans hx465_1
       replace hx465_2 := (HB.out.cell (World.block_lt_of_cell? w _ hx465_2)).trans hx465_2
       replace hx465_3 := (HB.out.cell (World.block_lt_of_cell? w _ hx465_3)).trans hx465_3
       replace p465 := eq_true p465
       replace q465 := eq_true q465
       go_wp2
       repeat (go_quiet (fail); try go_wp2)
       go_ret
       exact ⟨by first | rfl | (simp [errW_none, errW_some] <;> rfl) | (simp [*, errW_none, errW_some] <;> rfl), by repeat (first | (with_reducible first | exact HB.out | apply below_alloc | apply pw_below_drewN | apply below_drew1 | refine below_set ?_ GE463.out) | exact HB.out)⟩
      ·rw [if_neg c7] at H
       have c7b0 : (((rd_T36 l0 x5_1).f1) == a1_1) = false := beq_eq_false_iff_ne.mpr c7
       have c7b1 : (((rd_T36 l0 x5_1).f1) != a1_1) = true := bne_iff_ne.mpr c7
       have H' := Aside0.mk H
       clear H
       have p464 : 0 ≤ (x5_1 : Int) := of_decide_eq_true (by first | (with_reducible assumption) | assumption)
       have q464 : x5_1 < (l0.length : Int) := of_decide_eq_true (by first | (with_reducible assumption) | assumption)
       obtain ⟨ad464, e464, hx464_0, hx464_1, hx464_2, hx464_3⟩ := at_T36 HR0.out x5_1 p464 q464
       cases e464
       replace hx464_0 := (HB.out.cell (World.block_lt_of_cell? w _ hx464_0)).trans hx464_0
       replace hx464_1 := (HB.out.cell (World.block_lt_of_cell? w _ hx464_1)).trans hx464_1
       replace hx464_2 := (HB.out.cell (World.block_lt_of_cell? w _ hx464_2)).trans hx464_2
       replace hx464_3 := (HB.out.cell (World.block_lt_of_cell? w _ hx464_3)).trans hx464_3
       replace p464 := eq_true p464
       replace q464 := eq_true q464
       have hcz9_0 : wr.cell? ⟨gb463, 0, none⟩ = some (.string a1_0) := (blk_cell BK463.out 0).trans rfl
       have hcz9_1 : wr.cell? ⟨gb463, 1, none⟩ = some (.int .i64 a1_1) := (blk_cell BK463.out 1).trans rfl
       have hcz9_2 : wr.cell? ⟨gb463, 2, none⟩ = some (.bool a1_2) := (blk_cell BK463.out 2).trans rfl
       have hcz9_3 : wr.cell? ⟨gb463, 3, none⟩ = some (.string a1_3) := (blk_cell BK463.out 3).trans rfl
       have hfz9_0 := blk_frozen BK463.out 0
       have hfz9_1 := blk_frozen BK463.out 1
       have hfz9_2 := blk_frozen BK463.out 2
       have hfz9_3 := blk_frozen BK463.out 3
       have p465 : 0 ≤ (x5_1 : Int) := of_decide_eq_true (by first | (with_reducible assumption) | assumption)
       have q465 : x5_1 < (l0.length : Int) := of_decide_eq_true (by first | (with_reducible assumption) | assumption)
       obtain ⟨ad465, e465, hx465_0, hx465_1, hx465_2, hx465_3⟩ := at_T36 HR0.out x5_1 p465 q465
       obtain rfl : ad464 = ad465 := (by injection e465)
       replace hx465_0 := (HB.out.cell (World.block_lt_of_cell? w _ hx465_0)).trans hx465_0
       replace hx465_1 := (HB.out.cell (World.block_lt_of_cell? w _ hx465_1)).trans hx465_1
       replace hx465_2 := (HB.out.cell (World.block_lt_of_cell? w _ hx465_2)).trans hx465_2
       replace hx465_3 := (HB.out.cell (World.block_lt_of_cell? w _ hx465_3)).trans hx465_3
       replace p465 := eq_true p465
       replace q465 := eq_true q465
       go_wp2
       repeat (go_quiet (fail); try go_wp2)
       go_roundg k1
       case measure => have := HK1.out; omega
       case rel => exact ⟨(wrap64 (x5_1 + 1)), (by first | rfl | (simp; done) | (simp [*]; done)), H', ⟨by have := HK1.out; omega⟩, ⟨by (with_reducible repeat (first | refine blk_drewN ?_ _ | refine blk_drew ?_ | refine blk_alloc ?_ _)); exact BK463.out⟩, ⟨by repeat (first | (with_reducible first | exact HB.out | apply below_alloc | apply pw_below_drewN | apply below_drew1 | refine below_set ?_ GE463.out) | exact HB.out)⟩⟩
     ·rw [if_neg c6] at H
      have c6b0 : (((rd_T36 l0 x5_1).f0).toList == a1_0.toList) = false := beq_eq_false_iff_ne.mpr c6
      have c6b1 : (((rd_T36 l0 x5_1).f0).toList != a1_0.toList) = true := bne_iff_ne.mpr c6
      have H' := Aside0.mk H
      clear H
      have p464 : 0 ≤ (x5_1 : Int) := of_decide_eq_true (by first | (with_reducible assumption) | assumption)
      have q464 : x5_1 < (l0.length : Int) := of_decide_eq_true (by first | (with_reducible assumption) | assumption)
      obtain ⟨ad464, e464, hx464_0, hx464_1, hx464_2, hx464_3⟩ := at_T36 HR0.out x5_1 p464 q464
      cases e464
      replace hx464_0 := (HB.out.cell (World.block_lt_of_cell? w _ hx464_0)).trans hx464_0
      replace hx464_1 := (HB.out.cell (World.block_lt_of_cell? w _ hx464_1)).trans hx464_1
      replace hx464_2 := (HB.out.cell (World.block_lt_of_cell? w _ hx464_2)).trans hx464_2
      replace hx464_3 := (HB.out.cell (World.block_lt_of_cell? w _ hx464_3)).trans hx464_3
      replace p464 := eq_true p464
      replace q464 := eq_true q464
      have hcz10_0 : wr.cell? ⟨gb463, 0, none⟩ = some (.string a1_0) := (blk_cell BK463.out 0).trans rfl
      have hcz10_1 : wr.cell? ⟨gb463, 1, none⟩ = some (.int .i64 a1_1) := (blk_cell BK463.out 1).trans rfl
      have hcz10_2 : wr.cell? ⟨gb463, 2, none⟩ = some (.bool a1_2) := (blk_cell BK463.out 2).trans rfl
      have hcz10_3 : wr.cell? ⟨gb463, 3, none⟩ = some (.string a1_3) := (blk_cell BK463.out 3).trans rfl
      have hfz10_0 := blk_frozen BK463.out 0
      have hfz10_1 := blk_frozen BK463.out 1
      have hfz10_2 := blk_frozen BK463.out 2
      have hfz10_3 := blk_frozen BK463.out 3
      go_wp2
      repeat (go_quiet (fail); try go_wp2)
      go_roundg k1
      case measure => have := HK1.out; omega
      case rel => exact ⟨(wrap64 (x5_1 + 1)), (by first | rfl | (simp; done) | (simp [*]; done)), H', ⟨by have := HK1.out; omega⟩, ⟨by (with_reducible repeat (first | refine blk_drewN ?_ _ | refine blk_drew ?_ | refine blk_alloc ?_ _)); exact BK463.out⟩, ⟨by repeat (first | (with_reducible first | exact HB.out | apply below_alloc | apply pw_below_drewN | apply below_drew1 | refine below_set ?_ GE463.out) | exact HB.out)⟩⟩
    ·rw [if_neg c5] at H
     exact absurd H (by simp)
   ·rw [if_neg c4] at H
    have c4b0 : decide (x5_1 < (l0.length : Int)) = false := decide_eq_false c4
    clear c4
    obtain rfl := Option.some.inj H
    go_wp2
    repeat (go_quiet (fail); try go_wp2)
    go_ret
    exact ⟨by first | rfl | (simp [errW_none, errW_some] <;> rfl) | (simp [*, errW_none, errW_some] <;> rfl), by repeat (first | (with_reducible first | exact HB.out | apply below_alloc | apply pw_below_drewN | apply below_drew1 | refine below_set ?_ GE463.out) | exact HB.out)⟩

end Go.Proofs.Ythdoanbadhfhjaa.PAll

-- slimmed
