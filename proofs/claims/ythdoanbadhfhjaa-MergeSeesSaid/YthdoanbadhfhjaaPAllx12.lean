-- Laid by ownprint.py (a program of the session, in wip/tools), out of the translation: Lean checks it.
import Derived.Test.YthdoanbadhfhjaaPAllx0
import Derived.Test.YthdoanbadhfhjaaPAllx11
import Derived.Test.YthdoanbadhfhjaaGv
namespace Go.Proofs.Ythdoanbadhfhjaa.PAll
open Go.RowKit Go.Proofs.YthdoanbadhfhjaaW.PrintWords Go.Proofs.YthdoanbadhfhjaaW.PrintLast Go.Proofs.YthdoanbadhfhjaaW.PrintMore
attribute [local go_sem] max2_int min2_int max_two min_two max_three min_three max_four min_four   -- for this text's walks alone
set_option linter.unusedVariables false
set_option linter.unusedSimpArgs false

/-! ### moultref12_Merge: function 12 -/
mutual
def moultref12_Merge.l0 : Nat → List (List (S36)) → List (S36) → Int → Option ((List (S36)))
 | 0, _, _, _ => none
 | k + 1, x0, x3, x4 => if x4 < (x0.length : Int) then (moultref12_Merge.l1 k x0 x3 x4 0) else (some x3)
def moultref12_Merge.l1 : Nat → List (List (S36)) → List (S36) → Int → Int → Option ((List (S36)))
 | 0, _, _, _, _ => none
 | k + 1, x0, x3, x4, x5 => if 0 ≤ x4 then (if x4 < (x0.length : Int) then (if x5 < ((rd_L4 x0 x4).length : Int) then (if 0 ≤ x5 then ((moultref12_put.f k x3 ((rd_T36 (rd_L4 x0 x4) x5).f0) ((rd_T36 (rd_L4 x0 x4) x5).f1) ((rd_T36 (rd_L4 x0 x4) x5).f2) ((rd_T36 (rd_L4 x0 x4) x5).f3)).bind fun t383 => (moultref12_Merge.l1 k x0 t383 x4 (wrap64 (x5 + 1)))) else (none)) else (moultref12_Merge.l0 k x0 x3 (wrap64 (x4 + 1)))) else (none)) else (none)
end
def moultref12_Merge.f (k : Nat) (l0 : List (List (S36))) : Option ((List (S36))) := moultref12_Merge.l0 k l0 ([] : List (S36)) 0
theorem moultref12_Merge.mono_l : ∀ k, (∀ y0 y1 y2, LeO (moultref12_Merge.l0 k y0 y1 y2) (moultref12_Merge.l0 (k + 1) y0 y1 y2)) ∧ (∀ y0 y1 y2 y3, LeO (moultref12_Merge.l1 k y0 y1 y2 y3) (moultref12_Merge.l1 (k + 1) y0 y1 y2 y3))
 | 0 => ⟨fun _ _ _ r h => by simp [moultref12_Merge.l0] at h, fun _ _ _ _ r h => by simp [moultref12_Merge.l1] at h⟩
 | k + 1 => by
  obtain ⟨ih0, ih1⟩ := moultref12_Merge.mono_l k
  refine ⟨?_, ?_⟩
  ·intro y0 y1 y2
   unfold moultref12_Merge.l0
   repeat' first
   | (with_reducible exact ih0 _ _ _)
   | (with_reducible exact ih1 _ _ _ _)
   | (with_reducible exact moultref12_put.mono _ _ _ _ _ _)
   | (with_reducible exact LeO.refl _)
   | (with_reducible exact LeO.none _)
   | (with_reducible refine LeO.ite ?_ ?_)
   | (with_reducible refine LeO.bind ?_ (fun _ => ?_))
   | exact ih0 _ _ _
   | exact ih1 _ _ _ _
   | exact moultref12_put.mono _ _ _ _ _ _
   | exact LeO.none _
   | refine LeO.ite ?_ ?_
   | refine LeO.bind ?_ (fun _ => ?_)
  ·intro y0 y1 y2 y3
   unfold moultref12_Merge.l1
   repeat' first
   | (with_reducible exact ih0 _ _ _)
   | (with_reducible exact ih1 _ _ _ _)
   | (with_reducible exact moultref12_put.mono _ _ _ _ _ _)
   | (with_reducible exact LeO.refl _)
   | (with_reducible exact LeO.none _)
   | (with_reducible refine LeO.ite ?_ ?_)
   | (with_reducible refine LeO.bind ?_ (fun _ => ?_))
   | exact ih0 _ _ _
   | exact ih1 _ _ _ _
   | exact moultref12_put.mono _ _ _ _ _ _
   | exact LeO.none _
   | refine LeO.ite ?_ ?_
   | refine LeO.bind ?_ (fun _ => ?_)
theorem moultref12_Merge.mono : ∀ a0 k, LeO (moultref12_Merge.f k a0) (moultref12_Merge.f (k + 1) a0) := by
 intro a0 k
 obtain ⟨ih0, ih1⟩ := moultref12_Merge.mono_l k
 unfold moultref12_Merge.f
 repeat' first
   | (with_reducible exact ih0 _ _ _)
   | (with_reducible exact ih1 _ _ _ _)
   | (with_reducible exact moultref12_put.mono _ _ _ _ _ _)
   | (with_reducible exact LeO.refl _)
   | (with_reducible exact LeO.none _)
   | (with_reducible refine LeO.ite ?_ ?_)
   | (with_reducible refine LeO.bind ?_ (fun _ => ?_))
   | exact ih0 _ _ _
   | exact ih1 _ _ _ _
   | exact moultref12_put.mono _ _ _ _ _ _
   | exact LeO.none _
   | refine LeO.ite ?_ ?_
   | refine LeO.bind ?_ (fun _ => ?_)
set_option maxHeartbeats 8000000 in
set_option maxRecDepth 100000 in
theorem moultref12_Merge.calls (k : Nat) (A0 : Option Addr) (c0 : Nat) (l0 : List (List (S36))) (r : List (S36)) (w : World) (hr0 : Kd.C (Kd.slice 36 k36) w A0 l0.length l0) (hc0 : l0.length ≤ c0) (h : moultref12_Merge.f k l0 = some r) :
  Calls Try.prog 12 #[.slice A0 l0.length c0] w fun e w' => ∃ v0_ : Value, e = .returned (v0_) ∧ Kd.V k36 36 w' w.heap.size (fun k_ => (w.heap.size ≤ k_)) v0_ r ∧ Below w.heap.size w w' := by
 have hu36 := Try.underlying36
 have HR0 := Aside0.mk hr0
 have HC0 := Aside0.mk hc0
 clear hr0 hc0
 have HB := Aside0.mk (Below.refl w.heap.size w)
 have H : (moultref12_Merge.l0 k l0 ([] : List (S36)) 0) = some r := h
 clear h
 have H' := Aside0.mk H
 clear H
 go_enter Try.func12, Try.ntmps12
 go_wp2
 go_loopg [3, 4] k (fun kq v3 v4 w' => ∃ (x3_1 : List (S36)) (x4_1 : Int), v4 = .int .i64 x4_1 ∧ Aside0 (moultref12_Merge.l0 kq l0 x3_1 x4_1 = some r) ∧ Aside0 (kq ≤ k) ∧ Aside0 (Kd.V k36 36 w' w.heap.size (fun k_ => (w.heap.size ≤ k_)) v3 x3_1) ∧ Aside0 (Below w.heap.size w w'))
 case atStart => exact ⟨(([] : List (S36))), (0), (by first | rfl | (simp; done) | (simp [*]; done)), H', ⟨Nat.le_refl _⟩, ⟨(Kd.V_nil _ _ _ _ _)⟩, ⟨by repeat (first | (with_reducible first | exact HB.out | apply below_alloc | apply pw_below_drewN | apply below_drew1) | exact HB.out)⟩⟩
 case round =>
  clear H'
  try clear c1
  obtain ⟨x3_1, x4_1, rfl, HA, HK1, HO_3, HB⟩ := hrel
  cases gk with
  | zero => exact absurd HA.out (by simp [moultref12_Merge.l0])
  | succ k1 =>
   have H := HA.out
   clear HA
   simp only [moultref12_Merge.l0] at H
   by_cases c2 : x4_1 < (l0.length : Int)
   ·rw [if_pos c2] at H
    have c2b0 : decide (x4_1 < (l0.length : Int)) = true := decide_eq_true c2
    clear c2
    have H' := Aside0.mk H
    clear H
    go_wp2
    go_loopg [3, 5] k1 (fun kq v3 v5 w' => ∃ (x3_2 : List (S36)) (x5_2 : Int), v5 = .int .i64 x5_2 ∧ Aside0 (moultref12_Merge.l1 kq l0 x3_2 x4_1 x5_2 = some r) ∧ Aside0 (kq ≤ k1) ∧ Aside0 (Kd.V k36 36 w' w.heap.size (fun k_ => (w.heap.size ≤ k_)) v3 x3_2) ∧ Aside0 (Below w.heap.size w w'))
    case atStart => exact ⟨(x3_1), (0), (by first | rfl | (simp; done) | (simp [*]; done)), H', ⟨Nat.le_refl _⟩, ⟨by (with_reducible repeat (first | apply Kd.V_alloc | apply Kd.V_drewN | apply Kd.V_drew)); exact HO_3.out⟩, ⟨by repeat (first | (with_reducible first | exact HB.out | apply below_alloc | apply pw_below_drewN | apply below_drew1) | exact HB.out)⟩⟩
    case round =>
     clear H'
     try clear c1
     try clear c2
     try clear c2b0
     try clear p2
     obtain ⟨x3_2, x5_2, rfl, HA, HK2, HO_3, HB⟩ := hrel
     cases gk with
     | zero => exact absurd HA.out (by simp [moultref12_Merge.l1])
     | succ k2 =>
      have H := HA.out
      clear HA
      simp only [moultref12_Merge.l1] at H
      by_cases c3 : 0 ≤ x4_1
      ·rw [if_pos c3] at H
       have c3b0 : decide (0 ≤ x4_1) = true := decide_eq_true c3
       clear c3
       by_cases c4 : x4_1 < (l0.length : Int)
       ·rw [if_pos c4] at H
        have c4b0 : decide (x4_1 < (l0.length : Int)) = true := decide_eq_true c4
        clear c4
        by_cases c5 : x5_2 < ((rd_L4 l0 x4_1).length : Int)
        ·rw [if_pos c5] at H
         have c5b0 : decide (x5_2 < ((rd_L4 l0 x4_1).length : Int)) = true := decide_eq_true c5
         clear c5
         by_cases c6 : 0 ≤ x5_2
         ·rw [if_pos c6] at H
          have c6b0 : decide (0 ≤ x5_2) = true := decide_eq_true c6
          clear c6
          replace H := Option.bind_eq_some_iff.mp H
          obtain ⟨t383, A70, H⟩ := H
          replace H : (moultref12_Merge.l1 k2 l0 t383 x4_1 (wrap64 (x5_2 + 1))) = some r := H
          have A7 := Aside0.mk A70
          clear A70
          have H' := Aside0.mk H
          clear H
          have p380 : 0 ≤ (x4_1 : Int) := of_decide_eq_true (by first | (with_reducible assumption) | assumption)
          have q380 : x4_1 < (l0.length : Int) := of_decide_eq_true (by first | (with_reducible assumption) | assumption)
          obtain ⟨ad380, A380_0, c380_0, e380, hx380_0, hl380_0, hi380_0⟩ := at_L4 HR0.out x4_1 p380 q380
          cases e380
          replace hx380_0 := (HB.out.cell (World.block_lt_of_cell? w _ hx380_0)).trans hx380_0
          have HR380_0 := Aside0.mk hi380_0
          have HC380_0 := Aside0.mk hl380_0
          clear hi380_0 hl380_0
          replace p380 := eq_true p380
          replace q380 := eq_true q380
          have p381 : 0 ≤ (x4_1 : Int) := of_decide_eq_true (by first | (with_reducible assumption) | assumption)
          have q381 : x4_1 < (l0.length : Int) := of_decide_eq_true (by first | (with_reducible assumption) | assumption)
          obtain ⟨ad381, A381_0, c381_0, e381, hx381_0, hl381_0, hi381_0⟩ := at_L4 HR0.out x4_1 p381 q381
          obtain rfl : ad380 = ad381 := (by injection e381)
          replace hx381_0 := (HB.out.cell (World.block_lt_of_cell? w _ hx381_0)).trans hx381_0
          have HR381_0 := Aside0.mk hi381_0
          have HC381_0 := Aside0.mk hl381_0
          clear hi381_0 hl381_0
          replace p381 := eq_true p381
          replace q381 := eq_true q381
          have ea_ := Option.some.inj (hx380_0.symm.trans hx381_0)
          injection ea_ with ea_ en_ ec_
          subst ea_
          subst ec_
          clear en_
          have p382 : 0 ≤ (x5_2 : Int) := of_decide_eq_true (by first | (with_reducible assumption) | assumption)
          have q382 : x5_2 < ((rd_L4 l0 x4_1).length : Int) := of_decide_eq_true (by first | (with_reducible assumption) | assumption)
          obtain ⟨ad382, e382, hx382_0, hx382_1, hx382_2, hx382_3⟩ := at_T36 HR381_0.out x5_2 p382 q382
          cases e382
          replace hx382_0 := (HB.out.cell (World.block_lt_of_cell? w _ hx382_0)).trans hx382_0
          replace hx382_1 := (HB.out.cell (World.block_lt_of_cell? w _ hx382_1)).trans hx382_1
          replace hx382_2 := (HB.out.cell (World.block_lt_of_cell? w _ hx382_2)).trans hx382_2
          replace hx382_3 := (HB.out.cell (World.block_lt_of_cell? w _ hx382_3)).trans hx382_3
          replace p382 := eq_true p382
          replace q382 := eq_true q382
          obtain ⟨Ao8, co8, eo8⟩ := Kd.V_slice HO_3.out
          subst eo8
          go_wp2_with (first | ((with_reducible refine gate_callee (f := 27) rfl ?_); refine goesL_ (some 29) rfl rfl Try.func27 (by kernel_rfl) rfl #[.slice Ao8 x3_2.length co8, .agg #[.string ((rd_T36 (rd_L4 l0 x4_1) x5_2).f0), .int .i64 ((rd_T36 (rd_L4 l0 x4_1) x5_2).f1), .bool ((rd_T36 (rd_L4 l0 x4_1) x5_2).f2), .string ((rd_T36 (rd_L4 l0 x4_1) x5_2).f3)]] rfl (by (try simp only [List.map_toArray, List.map_cons, List.map_nil]); first | done | rfl | (simp only [List.length_drop, List.length_take]; rfl)) ?_; (with_reducible refine (moultref12_put.calls k2 (fun k_ => (w.heap.size ≤ k_)) _ _ x3_2 ((rd_T36 (rd_L4 l0 x4_1) x5_2).f0) ((rd_T36 (rd_L4 l0 x4_1) x5_2).f1) ((rd_T36 (rd_L4 l0 x4_1) x5_2).f2) ((rd_T36 (rd_L4 l0 x4_1) x5_2).f3) t383 _ ?side1 A7.out).mono ?_); (case side1 => exact HO_3.out); rintro e w9 ⟨v384, rfl, ho0, hb⟩; refine ⟨_, rfl, ?_⟩; have n0_ := Aside0.mk (Kd.V_below HO_3.out hb); have n1_ := Aside0.mk (Kd.V_lower (Kd.V_mono (ok' := fun k_ => (w.heap.size ≤ k_)) ho0 (fun k_ hk_ => Or.elim hk_ (fun hs_ => hs_) (fun hn_ => (Nat.le_trans (below_size HB.out) hn_)))) (below_size HB.out)); have n2_ := Aside0.mk (below_step HB.out hb); clear HO_3; clear HB; have HO_3 := n0_; have HO385 := n1_; have HB := n2_; clear n0_ n1_ n2_; (try clear hb); (try clear hb2); (try clear hk); (try clear hi); (try clear ho0)))
          go_roundg k2
          case measure => have := HK1.out; have := HK2.out; omega
          case rel => exact ⟨(t383), (wrap64 (x5_2 + 1)), (by first | rfl | (simp; done) | (simp [*]; done)), H', ⟨by have := HK1.out; have := HK2.out; omega⟩, ⟨by (with_reducible repeat (first | apply Kd.V_alloc | apply Kd.V_drewN | apply Kd.V_drew)); exact HO385.out⟩, ⟨by repeat (first | (with_reducible first | exact HB.out | apply below_alloc | apply pw_below_drewN | apply below_drew1) | exact HB.out)⟩⟩
         ·rw [if_neg c6] at H
          exact absurd H (by simp)
        ·rw [if_neg c5] at H
         have c5b0 : decide (x5_2 < ((rd_L4 l0 x4_1).length : Int)) = false := decide_eq_false c5
         clear c5
         have H' := Aside0.mk H
         clear H
         have p380 : 0 ≤ (x4_1 : Int) := of_decide_eq_true (by first | (with_reducible assumption) | assumption)
         have q380 : x4_1 < (l0.length : Int) := of_decide_eq_true (by first | (with_reducible assumption) | assumption)
         obtain ⟨ad380, A380_0, c380_0, e380, hx380_0, hl380_0, hi380_0⟩ := at_L4 HR0.out x4_1 p380 q380
         cases e380
         replace hx380_0 := (HB.out.cell (World.block_lt_of_cell? w _ hx380_0)).trans hx380_0
         have HR380_0 := Aside0.mk hi380_0
         have HC380_0 := Aside0.mk hl380_0
         clear hi380_0 hl380_0
         replace p380 := eq_true p380
         replace q380 := eq_true q380
         go_wp2
         go_roundg k2
         case measure => have := HK1.out; have := HK2.out; omega
         case rel => exact ⟨(x3_2), (wrap64 (x4_1 + 1)), (by first | rfl | (simp; done) | (simp [*]; done)), H', ⟨by have := HK1.out; have := HK2.out; omega⟩, ⟨by (with_reducible repeat (first | apply Kd.V_alloc | apply Kd.V_drewN | apply Kd.V_drew)); exact HO_3.out⟩, ⟨by repeat (first | (with_reducible first | exact HB.out | apply below_alloc | apply pw_below_drewN | apply below_drew1) | exact HB.out)⟩⟩
       ·rw [if_neg c4] at H
        exact absurd H (by simp)
      ·rw [if_neg c3] at H
       exact absurd H (by simp)
   ·rw [if_neg c2] at H
    have c2b0 : decide (x4_1 < (l0.length : Int)) = false := decide_eq_false c2
    clear c2
    obtain rfl := Option.some.inj H
    go_wp2
    go_ret
    exact ⟨_, by first | rfl | (simp [errW_none, errW_some] <;> rfl) | (simp [*, errW_none, errW_some] <;> rfl), by (with_reducible repeat (first | apply Kd.V_alloc | apply Kd.V_drewN | apply Kd.V_drew)); exact HO_3.out, by repeat (first | (with_reducible first | exact HB.out | apply below_alloc | apply pw_below_drewN | apply below_drew1) | exact HB.out)⟩

/-! ### moultlaw12_small: function 18 -/
def moultlaw12_small.l0 : Nat → List (S36) → Int → Option (Bool)
 | 0, _, _ => none
 | k + 1, x0, x3 => if x3 < (x0.length : Int) then (if 0 ≤ x3 then (if (((rd_T36 x0 x3).f0).size : Int) > 300 then (some false) else (if (((rd_T36 x0 x3).f3).size : Int) > 300 then (some false) else (if ((rd_T36 x0 x3).f1) > 1099511627776 then (some false) else (if ((rd_T36 x0 x3).f1) < 0 then (some false) else (moultlaw12_small.l0 k x0 (wrap64 (x3 + 1))))))) else (none)) else (some true)
def moultlaw12_small.f (k : Nat) (l0 : List (S36)) : Option (Bool) := if (l0.length : Int) > 60 then (some false) else (moultlaw12_small.l0 k l0 0)
theorem moultlaw12_small.mono_l : ∀ k, (∀ y0 y1, LeO (moultlaw12_small.l0 k y0 y1) (moultlaw12_small.l0 (k + 1) y0 y1))
 | 0 => fun _ _ r h => by simp [moultlaw12_small.l0] at h
 | k + 1 => by
  have ih0 := moultlaw12_small.mono_l k
  ·intro y0 y1
   unfold moultlaw12_small.l0
   repeat' first
   | (with_reducible exact ih0 _ _)
   | (with_reducible exact LeO.refl _)
   | (with_reducible exact LeO.none _)
   | (with_reducible refine LeO.ite ?_ ?_)
   | (with_reducible refine LeO.bind ?_ (fun _ => ?_))
   | exact ih0 _ _
   | exact LeO.none _
   | refine LeO.ite ?_ ?_
   | refine LeO.bind ?_ (fun _ => ?_)
theorem moultlaw12_small.mono : ∀ a0 k, LeO (moultlaw12_small.f k a0) (moultlaw12_small.f (k + 1) a0) := by
 intro a0 k
 have ih0 := moultlaw12_small.mono_l k
 unfold moultlaw12_small.f
 repeat' first
   | (with_reducible exact ih0 _ _)
   | (with_reducible exact LeO.refl _)
   | (with_reducible exact LeO.none _)
   | (with_reducible refine LeO.ite ?_ ?_)
   | (with_reducible refine LeO.bind ?_ (fun _ => ?_))
   | exact ih0 _ _
   | exact LeO.none _
   | refine LeO.ite ?_ ?_
   | refine LeO.bind ?_ (fun _ => ?_)
set_option maxHeartbeats 8000000 in
set_option maxRecDepth 100000 in
theorem moultlaw12_small.calls (k : Nat) (A0 : Option Addr) (c0 : Nat) (l0 : List (S36)) (r : Bool) (w : World) (hr0 : Kd.C k36 w A0 l0.length l0) (hc0 : l0.length ≤ c0) (h : moultlaw12_small.f k l0 = some r) :
  Calls Try.prog 18 #[.slice A0 l0.length c0] w fun e w' => e = .returned (.bool r) ∧ Drawn0 w w' := by
 have HR0 := Aside0.mk hr0
 have HC0 := Aside0.mk hc0
 clear hr0 hc0
 have H : (if (l0.length : Int) > 60 then (some false) else (moultlaw12_small.l0 k l0 0)) = some r := h
 clear h
 by_cases c2 : (l0.length : Int) > 60
 ·rw [if_pos c2] at H
  have c2b0 : decide (60 < (l0.length : Int)) = true := decide_eq_true c2
  have c2b1 : decide (60 < l0.length) = true := decide_eq_true (by omega)
  clear c2
  obtain rfl := Option.some.inj H
  go_enter Try.func18, Try.ntmps18
  go_wp2
  go_ret
  exact ⟨by first | rfl | (simp; done) | (simp [*]; done), by repeat (first | exact Drawn0.refl _ | apply Drawn0.step)⟩
 ·rw [if_neg c2] at H
  have c2b0 : decide (60 < (l0.length : Int)) = false := decide_eq_false c2
  have c2b1 : decide (60 < l0.length) = false := decide_eq_false (by omega)
  clear c2
  have H' := Aside0.mk H
  clear H
  go_enter Try.func18, Try.ntmps18
  go_wp2
  go_loopg [3] k (fun kq v3 w' => ∃ (x3_1 : Int), v3 = .int .i64 x3_1 ∧ Aside0 (moultlaw12_small.l0 kq l0 x3_1 = some r) ∧ Aside0 (kq ≤ k) ∧ Drawn0 w w')
  case atStart => exact ⟨(0), (by first | rfl | (simp; done) | (simp [*]; done)), H', ⟨Nat.le_refl _⟩, by repeat (first | exact Drawn0.refl _ | apply Drawn0.step)⟩
  case round =>
   clear H'
   try clear c1
   try clear c2
   try clear c2b0
   try clear c2b1
   try clear p2
   obtain ⟨x3_1, rfl, HA, HK1, ⟨m1, rfl⟩⟩ := hrel
   cases gk with
   | zero => exact absurd HA.out (by simp [moultlaw12_small.l0])
   | succ k1 =>
    have H := HA.out
    clear HA
    simp only [moultlaw12_small.l0] at H
    by_cases c3 : x3_1 < (l0.length : Int)
    ·rw [if_pos c3] at H
     have c3b0 : decide (x3_1 < (l0.length : Int)) = true := decide_eq_true c3
     clear c3
     by_cases c4 : 0 ≤ x3_1
     ·rw [if_pos c4] at H
      have c4b0 : decide (0 ≤ x3_1) = true := decide_eq_true c4
      clear c4
      by_cases c5 : (((rd_T36 l0 x3_1).f0).size : Int) > 300
      ·rw [if_pos c5] at H
       have c5b0 : decide (300 < (((rd_T36 l0 x3_1).f0).size : Int)) = true := decide_eq_true c5
       have c5b1 : decide (300 < ((rd_T36 l0 x3_1).f0).size) = true := decide_eq_true (by omega)
       clear c5
       obtain rfl := Option.some.inj H
       have p386 : 0 ≤ (x3_1 : Int) := of_decide_eq_true (by first | (with_reducible assumption) | assumption)
       have q386 : x3_1 < (l0.length : Int) := of_decide_eq_true (by first | (with_reducible assumption) | assumption)
       obtain ⟨ad386, e386, hx386_0, hx386_1, hx386_2, hx386_3⟩ := at_T36 HR0.out x3_1 p386 q386
       cases e386
       replace p386 := eq_true p386
       replace q386 := eq_true q386
       go_wp2
       go_ret
       exact ⟨by first | rfl | (simp; done) | (simp [*]; done), by repeat (first | exact Drawn0.refl _ | apply Drawn0.step)⟩
      ·rw [if_neg c5] at H
       have c5b0 : decide (300 < (((rd_T36 l0 x3_1).f0).size : Int)) = false := decide_eq_false c5
       have c5b1 : decide (300 < ((rd_T36 l0 x3_1).f0).size) = false := decide_eq_false (by omega)
       clear c5
       by_cases c6 : (((rd_T36 l0 x3_1).f3).size : Int) > 300
       ·rw [if_pos c6] at H
        have c6b0 : decide (300 < (((rd_T36 l0 x3_1).f3).size : Int)) = true := decide_eq_true c6
        have c6b1 : decide (300 < ((rd_T36 l0 x3_1).f3).size) = true := decide_eq_true (by omega)
        clear c6
        obtain rfl := Option.some.inj H
        have p386 : 0 ≤ (x3_1 : Int) := of_decide_eq_true (by first | (with_reducible assumption) | assumption)
        have q386 : x3_1 < (l0.length : Int) := of_decide_eq_true (by first | (with_reducible assumption) | assumption)
        obtain ⟨ad386, e386, hx386_0, hx386_1, hx386_2, hx386_3⟩ := at_T36 HR0.out x3_1 p386 q386
        cases e386
        replace p386 := eq_true p386
        replace q386 := eq_true q386
        have p387 : 0 ≤ (x3_1 : Int) := of_decide_eq_true (by first | (with_reducible assumption) | assumption)
        have q387 : x3_1 < (l0.length : Int) := of_decide_eq_true (by first | (with_reducible assumption) | assumption)
        obtain ⟨ad387, e387, hx387_0, hx387_1, hx387_2, hx387_3⟩ := at_T36 HR0.out x3_1 p387 q387
        obtain rfl : ad386 = ad387 := (by injection e387)
        replace p387 := eq_true p387
        replace q387 := eq_true q387
        go_wp2
        go_ret
        exact ⟨by first | rfl | (simp; done) | (simp [*]; done), by repeat (first | exact Drawn0.refl _ | apply Drawn0.step)⟩
       ·rw [if_neg c6] at H
        have c6b0 : decide (300 < (((rd_T36 l0 x3_1).f3).size : Int)) = false := decide_eq_false c6
        have c6b1 : decide (300 < ((rd_T36 l0 x3_1).f3).size) = false := decide_eq_false (by omega)
        clear c6
        by_cases c7 : ((rd_T36 l0 x3_1).f1) > 1099511627776
        ·rw [if_pos c7] at H
         have c7b0 : decide (1099511627776 < ((rd_T36 l0 x3_1).f1)) = true := decide_eq_true c7
         clear c7
         obtain rfl := Option.some.inj H
         have p386 : 0 ≤ (x3_1 : Int) := of_decide_eq_true (by first | (with_reducible assumption) | assumption)
         have q386 : x3_1 < (l0.length : Int) := of_decide_eq_true (by first | (with_reducible assumption) | assumption)
         obtain ⟨ad386, e386, hx386_0, hx386_1, hx386_2, hx386_3⟩ := at_T36 HR0.out x3_1 p386 q386
         cases e386
         replace p386 := eq_true p386
         replace q386 := eq_true q386
         have p387 : 0 ≤ (x3_1 : Int) := of_decide_eq_true (by first | (with_reducible assumption) | assumption)
         have q387 : x3_1 < (l0.length : Int) := of_decide_eq_true (by first | (with_reducible assumption) | assumption)
         obtain ⟨ad387, e387, hx387_0, hx387_1, hx387_2, hx387_3⟩ := at_T36 HR0.out x3_1 p387 q387
         obtain rfl : ad386 = ad387 := (by injection e387)
         replace p387 := eq_true p387
         replace q387 := eq_true q387
         have p388 : 0 ≤ (x3_1 : Int) := of_decide_eq_true (by first | (with_reducible assumption) | assumption)
         have q388 : x3_1 < (l0.length : Int) := of_decide_eq_true (by first | (with_reducible assumption) | assumption)
         obtain ⟨ad388, e388, hx388_0, hx388_1, hx388_2, hx388_3⟩ := at_T36 HR0.out x3_1 p388 q388
         obtain rfl : ad386 = ad388 := (by injection e388)
         replace p388 := eq_true p388
         replace q388 := eq_true q388
         go_wp2
         go_ret
         exact ⟨by first | rfl | (simp; done) | (simp [*]; done), by repeat (first | exact Drawn0.refl _ | apply Drawn0.step)⟩
        ·rw [if_neg c7] at H
         have c7b0 : decide (1099511627776 < ((rd_T36 l0 x3_1).f1)) = false := decide_eq_false c7
         clear c7
         by_cases c8 : ((rd_T36 l0 x3_1).f1) < 0
         ·rw [if_pos c8] at H
          have c8b0 : decide (((rd_T36 l0 x3_1).f1) < 0) = true := decide_eq_true c8
          clear c8
          obtain rfl := Option.some.inj H
          have p386 : 0 ≤ (x3_1 : Int) := of_decide_eq_true (by first | (with_reducible assumption) | assumption)
          have q386 : x3_1 < (l0.length : Int) := of_decide_eq_true (by first | (with_reducible assumption) | assumption)
          obtain ⟨ad386, e386, hx386_0, hx386_1, hx386_2, hx386_3⟩ := at_T36 HR0.out x3_1 p386 q386
          cases e386
          replace p386 := eq_true p386
          replace q386 := eq_true q386
          have p387 : 0 ≤ (x3_1 : Int) := of_decide_eq_true (by first | (with_reducible assumption) | assumption)
          have q387 : x3_1 < (l0.length : Int) := of_decide_eq_true (by first | (with_reducible assumption) | assumption)
          obtain ⟨ad387, e387, hx387_0, hx387_1, hx387_2, hx387_3⟩ := at_T36 HR0.out x3_1 p387 q387
          obtain rfl : ad386 = ad387 := (by injection e387)
          replace p387 := eq_true p387
          replace q387 := eq_true q387
          have p388 : 0 ≤ (x3_1 : Int) := of_decide_eq_true (by first | (with_reducible assumption) | assumption)
          have q388 : x3_1 < (l0.length : Int) := of_decide_eq_true (by first | (with_reducible assumption) | assumption)
          obtain ⟨ad388, e388, hx388_0, hx388_1, hx388_2, hx388_3⟩ := at_T36 HR0.out x3_1 p388 q388
          obtain rfl : ad386 = ad388 := (by injection e388)
          replace p388 := eq_true p388
          replace q388 := eq_true q388
          have p389 : 0 ≤ (x3_1 : Int) := of_decide_eq_true (by first | (with_reducible assumption) | assumption)
          have q389 : x3_1 < (l0.length : Int) := of_decide_eq_true (by first | (with_reducible assumption) | assumption)
          obtain ⟨ad389, e389, hx389_0, hx389_1, hx389_2, hx389_3⟩ := at_T36 HR0.out x3_1 p389 q389
          obtain rfl : ad386 = ad389 := (by injection e389)
          replace p389 := eq_true p389
          replace q389 := eq_true q389
          go_wp2
          go_ret
          exact ⟨by first | rfl | (simp; done) | (simp [*]; done), by repeat (first | exact Drawn0.refl _ | apply Drawn0.step)⟩
         ·rw [if_neg c8] at H
          have c8b0 : decide (((rd_T36 l0 x3_1).f1) < 0) = false := decide_eq_false c8
          clear c8
          have H' := Aside0.mk H
          clear H
          have p386 : 0 ≤ (x3_1 : Int) := of_decide_eq_true (by first | (with_reducible assumption) | assumption)
          have q386 : x3_1 < (l0.length : Int) := of_decide_eq_true (by first | (with_reducible assumption) | assumption)
          obtain ⟨ad386, e386, hx386_0, hx386_1, hx386_2, hx386_3⟩ := at_T36 HR0.out x3_1 p386 q386
          cases e386
          replace p386 := eq_true p386
          replace q386 := eq_true q386
          have p387 : 0 ≤ (x3_1 : Int) := of_decide_eq_true (by first | (with_reducible assumption) | assumption)
          have q387 : x3_1 < (l0.length : Int) := of_decide_eq_true (by first | (with_reducible assumption) | assumption)
          obtain ⟨ad387, e387, hx387_0, hx387_1, hx387_2, hx387_3⟩ := at_T36 HR0.out x3_1 p387 q387
          obtain rfl : ad386 = ad387 := (by injection e387)
          replace p387 := eq_true p387
          replace q387 := eq_true q387
          have p388 : 0 ≤ (x3_1 : Int) := of_decide_eq_true (by first | (with_reducible assumption) | assumption)
          have q388 : x3_1 < (l0.length : Int) := of_decide_eq_true (by first | (with_reducible assumption) | assumption)
          obtain ⟨ad388, e388, hx388_0, hx388_1, hx388_2, hx388_3⟩ := at_T36 HR0.out x3_1 p388 q388
          obtain rfl : ad386 = ad388 := (by injection e388)
          replace p388 := eq_true p388
          replace q388 := eq_true q388
          have p389 : 0 ≤ (x3_1 : Int) := of_decide_eq_true (by first | (with_reducible assumption) | assumption)
          have q389 : x3_1 < (l0.length : Int) := of_decide_eq_true (by first | (with_reducible assumption) | assumption)
          obtain ⟨ad389, e389, hx389_0, hx389_1, hx389_2, hx389_3⟩ := at_T36 HR0.out x3_1 p389 q389
          obtain rfl : ad386 = ad389 := (by injection e389)
          replace p389 := eq_true p389
          replace q389 := eq_true q389
          go_wp2
          go_roundg k1
          case measure => have := HK1.out; omega
          case rel => exact ⟨(wrap64 (x3_1 + 1)), (by first | rfl | (simp; done) | (simp [*]; done)), H', ⟨by have := HK1.out; omega⟩, by repeat (first | exact Drawn0.refl _ | apply Drawn0.step)⟩
     ·rw [if_neg c4] at H
      exact absurd H (by simp)
    ·rw [if_neg c3] at H
     have c3b0 : decide (x3_1 < (l0.length : Int)) = false := decide_eq_false c3
     clear c3
     obtain rfl := Option.some.inj H
     go_wp2
     go_ret
     exact ⟨by first | rfl | (simp; done) | (simp [*]; done), by repeat (first | exact Drawn0.refl _ | apply Drawn0.step)⟩

/-! ### moultlaw12_rows: function 10 -/
def moultlaw12_rows.l0 : Nat → List (List (S36)) → List (List (S36)) → Int → Option ((List (List (S36))) × Bool)
 | 0, _, _, _ => none
 | k + 1, x0, x4, x5 => if x5 < (x0.length : Int) then (if 0 ≤ x5 then ((moultlaw12_small.f k (rd_L4 x0 x5)).bind fun t391 => (if t391 = true then ((moultref12_Merge.f k (([rd_L4 x0 x5] : List (List (S36))))).bind fun t396 => (if x4.length < 5864062014805 then (moultlaw12_rows.l0 k x0 (x4 ++ [t396]) (wrap64 (x5 + 1))) else (none))) else (some (([] : List (List (S36))), false)))) else (none)) else (some (x4, true))
def moultlaw12_rows.f (k : Nat) (l0 : List (List (S36))) : Option ((List (List (S36))) × Bool) := if (l0.length : Int) > 8 then (some (([] : List (List (S36))), false)) else (moultlaw12_rows.l0 k l0 ([] : List (List (S36))) 0)
theorem moultlaw12_rows.mono_l : ∀ k, (∀ y0 y1 y2, LeO (moultlaw12_rows.l0 k y0 y1 y2) (moultlaw12_rows.l0 (k + 1) y0 y1 y2))
 | 0 => fun _ _ _ r h => by simp [moultlaw12_rows.l0] at h
 | k + 1 => by
  have ih0 := moultlaw12_rows.mono_l k
  ·intro y0 y1 y2
   unfold moultlaw12_rows.l0
   repeat' first
   | (with_reducible exact ih0 _ _ _)
   | (with_reducible exact moultlaw12_small.mono _ _)
   | (with_reducible exact moultref12_Merge.mono _ _)
   | (with_reducible exact LeO.refl _)
   | (with_reducible exact LeO.none _)
   | (with_reducible refine LeO.ite ?_ ?_)
   | (with_reducible refine LeO.bind ?_ (fun _ => ?_))
   | exact ih0 _ _ _
   | exact moultlaw12_small.mono _ _
   | exact moultref12_Merge.mono _ _
   | exact LeO.none _
   | refine LeO.ite ?_ ?_
   | refine LeO.bind ?_ (fun _ => ?_)
theorem moultlaw12_rows.mono : ∀ a0 k, LeO (moultlaw12_rows.f k a0) (moultlaw12_rows.f (k + 1) a0) := by
 intro a0 k
 have ih0 := moultlaw12_rows.mono_l k
 unfold moultlaw12_rows.f
 repeat' first
   | (with_reducible exact ih0 _ _ _)
   | (with_reducible exact moultlaw12_small.mono _ _)
   | (with_reducible exact moultref12_Merge.mono _ _)
   | (with_reducible exact LeO.refl _)
   | (with_reducible exact LeO.none _)
   | (with_reducible refine LeO.ite ?_ ?_)
   | (with_reducible refine LeO.bind ?_ (fun _ => ?_))
   | exact ih0 _ _ _
   | exact moultlaw12_small.mono _ _
   | exact moultref12_Merge.mono _ _
   | exact LeO.none _
   | refine LeO.ite ?_ ?_
   | refine LeO.bind ?_ (fun _ => ?_)
set_option maxHeartbeats 8000000 in
set_option maxRecDepth 100000 in
theorem moultlaw12_rows.calls (k : Nat) (P0_ : Nat → Prop) (A0 : Option Addr) (c0 : Nat) (l0 : List (List (S36))) (r1 : List (List (S36))) (r2 : Bool) (w : World) (hs0 : Kd.V (Kd.slice 36 k36) 27 w w.heap.size (fun k_ => P0_ k_) (.slice A0 l0.length c0) l0) (h : moultlaw12_rows.f k l0 = some (r1, r2)) :
  Calls Try.prog 10 #[.slice A0 l0.length c0] w fun e w' => ∃ v0_ : Value, e = .returned (.tuple #[v0_, .bool r2]) ∧ Kd.N (Kd.slice 36 k36) 27 w' w.heap.size (fun k_ => (P0_ k_ ∨ w.heap.size ≤ k_)) v0_ r1 ∧ Below w.heap.size w w' := by
 have HO0 := Aside0.mk (show Kd.V (Kd.slice 36 k36) 27 w w.heap.size (fun k_ => (P0_ k_ ∨ w.heap.size ≤ k_)) (.slice A0 l0.length c0) l0 from Kd.V_mono hs0 (fun k_ hk => .inl hk))
 have HB := Aside0.mk (Below.refl w.heap.size w)
 have H : (if (l0.length : Int) > 8 then (some (([] : List (List (S36))), false)) else (moultlaw12_rows.l0 k l0 ([] : List (List (S36))) 0)) = some (r1, r2) := h
 clear h
 by_cases c2 : (l0.length : Int) > 8
 ·rw [if_pos c2] at H
  have c2b0 : decide (8 < (l0.length : Int)) = true := decide_eq_true c2
  have c2b1 : decide (8 < l0.length) = true := decide_eq_true (by omega)
  clear c2
  simp only [Option.some.injEq, Prod.mk.injEq] at H
  obtain ⟨rfl, rfl⟩ := H
  go_enter Try.func10, Try.ntmps10
  go_wp2
  go_ret2
  exact ⟨_, by first | rfl | (simp [errW_none, errW_some] <;> rfl) | (simp [*, errW_none, errW_some] <;> rfl), by first | exact Kd.S_nil _ _ _ _ _ | exact Kd.N_nil _ _ _ _ _ | exact Kd.V_nil _ _ _ _ _ | exact Kd.Q_nil _ _ _ _ _ | exact Kd.R_nil _ _ _ _ _, by repeat (first | (with_reducible first | exact HB.out | apply below_alloc | apply pw_below_drewN | apply below_drew1) | exact HB.out)⟩
 ·rw [if_neg c2] at H
  have c2b0 : decide (8 < (l0.length : Int)) = false := decide_eq_false c2
  have c2b1 : decide (8 < l0.length) = false := decide_eq_false (by omega)
  clear c2
  have H' := Aside0.mk H
  clear H
  go_enter Try.func10, Try.ntmps10
  go_wp2
  go_loopg [4, 5] k (fun kq v4 v5 w' => ∃ (x4_1 : List (List (S36))) (x5_1 : Int), v5 = .int .i64 x5_1 ∧ Aside0 (moultlaw12_rows.l0 kq l0 x4_1 x5_1 = some (r1, r2)) ∧ Aside0 (kq ≤ k) ∧ Aside0 (Kd.V (Kd.slice 36 k36) 27 w' w.heap.size (fun k_ => (P0_ k_ ∨ w.heap.size ≤ k_) ∧ some k_ ≠ (v4 : Value).ownBlock) (.slice A0 l0.length c0) l0) ∧ Aside0 (Kd.N (Kd.slice 36 k36) 27 w' w.heap.size (fun k_ => (P0_ k_ ∨ w.heap.size ≤ k_)) v4 x4_1) ∧ Aside0 (Below w.heap.size w w'))
  case atStart => exact ⟨(([] : List (List (S36)))), (0), (by first | rfl | (simp; done) | (simp [*]; done)), H', ⟨Nat.le_refl _⟩, ⟨by (with_reducible repeat (first | apply Kd.V_alloc | apply Kd.V_drewN | apply Kd.V_drew)); exact Kd.V_mono HO0.out (fun _ hk => ⟨hk, (by simp [Value.ownBlock])⟩)⟩, ⟨by first | exact Kd.S_nil _ _ _ _ _ | exact Kd.N_nil _ _ _ _ _ | exact Kd.V_nil _ _ _ _ _ | exact Kd.Q_nil _ _ _ _ _ | exact Kd.R_nil _ _ _ _ _⟩, ⟨by repeat (first | (with_reducible first | exact HB.out | apply below_alloc | apply pw_below_drewN | apply below_drew1) | exact HB.out)⟩⟩
  case round =>
   clear H'
   try clear c1
   try clear c2
   try clear c2b0
   try clear c2b1
   try clear p2
   obtain ⟨x4_1, x5_1, rfl, HA, HK1, HO_0, HO_4, HB⟩ := hrel
   cases gk with
   | zero => exact absurd HA.out (by simp [moultlaw12_rows.l0])
   | succ k1 =>
    have H := HA.out
    clear HA
    simp only [moultlaw12_rows.l0] at H
    by_cases c3 : x5_1 < (l0.length : Int)
    ·rw [if_pos c3] at H
     have c3b0 : decide (x5_1 < (l0.length : Int)) = true := decide_eq_true c3
     clear c3
     by_cases c4 : 0 ≤ x5_1
     ·rw [if_pos c4] at H
      have c4b0 : decide (0 ≤ x5_1) = true := decide_eq_true c4
      clear c4
      replace H := Option.bind_eq_some_iff.mp H
      obtain ⟨t391, A50, H⟩ := H
      replace H : (if t391 = true then ((moultref12_Merge.f k1 (([rd_L4 l0 x5_1] : List (List (S36))))).bind fun t396 => (if x4_1.length < 5864062014805 then (moultlaw12_rows.l0 k1 l0 (x4_1 ++ [t396]) (wrap64 (x5_1 + 1))) else (none))) else (some (([] : List (List (S36))), false))) = some (r1, r2) := H
      have A5 := Aside0.mk A50
      clear A50
      by_cases c6 : t391 = true
      ·subst c6
       have H1 : ((moultref12_Merge.f k1 (([rd_L4 l0 x5_1] : List (List (S36))))).bind fun t396 => (if x4_1.length < 5864062014805 then (moultlaw12_rows.l0 k1 l0 (x4_1 ++ [t396]) (wrap64 (x5_1 + 1))) else (none))) = some (r1, r2) := by rw [if_pos rfl] at H; exact H
       clear H
       have H := H1
       clear H1
       obtain ⟨y393, hy393⟩ : ∃ y_ : List (List (S36)), y_ = (([rd_L4 l0 x5_1] : List (List (S36)))) := ⟨_, rfl⟩
       replace H : ((moultref12_Merge.f k1 y393).bind fun t396 => (if x4_1.length < 5864062014805 then (moultlaw12_rows.l0 k1 l0 (x4_1 ++ [t396]) (wrap64 (x5_1 + 1))) else (none))) = some (r1, r2) := by first | (rw [hy393]; with_reducible exact H) | (have H2_ := (Option.bind_some _ _).symm.trans H; rw [hy393]; with_reducible exact H2_) | (have H2_ := (Option.bind_some _ _).symm.trans H; with_reducible exact H2_) | with_reducible exact H | (rw [hy393]; exact H) | exact H
       have Ny393 := Aside0.mk hy393
       clear hy393
       replace H := Option.bind_eq_some_iff.mp H
       obtain ⟨t396, A70, H⟩ := H
       replace H : (if x4_1.length < 5864062014805 then (moultlaw12_rows.l0 k1 l0 (x4_1 ++ [t396]) (wrap64 (x5_1 + 1))) else (none)) = some (r1, r2) := H
       have A7 := Aside0.mk A70
       clear A70
       by_cases c8 : x4_1.length < 5864062014805
       ·rw [if_pos c8] at H
        have LMc8 := Aside0.mk c8
        clear c8
        obtain ⟨y399, hy399⟩ : ∃ y_ : List (List (S36)), y_ = (x4_1 ++ [t396]) := ⟨_, rfl⟩
        replace H : (moultlaw12_rows.l0 k1 l0 y399 (wrap64 (x5_1 + 1))) = some (r1, r2) := by first | (rw [hy399]; with_reducible exact H) | (have H2_ := (Option.bind_some _ _).symm.trans H; rw [hy399]; with_reducible exact H2_) | (have H2_ := (Option.bind_some _ _).symm.trans H; with_reducible exact H2_) | with_reducible exact H | (rw [hy399]; exact H) | exact H
        have Ny399 := Aside0.mk hy399
        clear hy399
        have H' := Aside0.mk H
        clear H
        have p390 : 0 ≤ (x5_1 : Int) := of_decide_eq_true (by first | (with_reducible assumption) | assumption)
        have q390 : x5_1 < (l0.length : Int) := of_decide_eq_true (by first | (with_reducible assumption) | assumption)
        obtain ⟨ad390, A390_0, c390_0, e390, hx390_0, hl390_0, hi390_0⟩ := at_L4 (Kd.V_reads' HO_0.out).2.2 x5_1 p390 q390
        cases e390
        obtain ⟨ce390, hce390, hMe390, hcc390⟩ := Kd.V_get HO_0.out [] x5_1 p390 (by first | exact q390 | exact of_decide_eq_true (by first | (with_reducible assumption) | assumption) | (have e_ := (Kd.V_reads' HO_0.out).1; omega))
        obtain ⟨ua390_0, uc390_0, rfl, ul390_0, ge390_0⟩ := Kd.FK_slice_open hMe390
        have hv390_0 := hcc390 0 _ rfl
        rw [Nat.add_zero, show ((Kd.slice 36 k36)).sz = 1 from rfl, Nat.mul_one] at hv390_0
        replace hv390_0 := Option.some.inj (hv390_0.symm.trans hx390_0)
        injection hv390_0 with hva_ hvn_ hvc_
        rw [hva_] at ge390_0
        rw [hvc_] at ul390_0
        have HL390_0 := Aside0.mk (show Kd.V k36 36 _ w.heap.size _ _ (rd_L4 l0 x5_1) from Kd.V_mk ul390_0 ge390_0)
        clear hva_ hvn_ hvc_ ge390_0 ul390_0
        clear hcc390 hce390
        have HR390_0 := Aside0.mk hi390_0
        have HC390_0 := Aside0.mk hl390_0
        clear hi390_0 hl390_0
        replace p390 := eq_true p390
        replace q390 := eq_true q390
        go_wp2_with (first | ((with_reducible refine gate_callee (f := 18) rfl ?_); refine goesL_ (some 20) rfl rfl Try.func18 (by kernel_rfl) rfl #[.slice A390_0 (rd_L4 l0 x5_1).length c390_0] rfl (by (try simp only [List.map_toArray, List.map_cons, List.map_nil]); first | done | rfl | (simp only [List.length_drop, List.length_take]; rfl)) ?_; (with_reducible refine (moultlaw12_small.calls k1 _ _ (rd_L4 l0 x5_1) true _ ?side1 ?side2 A5.out).mono ?_); (case side1 => repeat (first | exact (by repeat (first | (with_reducible exact HR390_0.out) | (with_reducible refine Kd.C_alloc ?_ _) | (with_reducible refine Kd.C_drewN ?_ _) | (with_reducible refine Kd.C_drew ?_) | exact HR390_0.out)) | (with_reducible refine Kd.C_alloc ?_ _) | (with_reducible refine Kd.C_drewN ?_ _) | (with_reducible refine Kd.C_drew ?_))); (case side2 => exact HC390_0.out); rintro e w' ⟨rfl, ⟨nd, rfl⟩⟩; refine ⟨_, rfl, ?_⟩; have p392 : 0 ≤ (x5_1 : Int) := of_decide_eq_true (by first | (with_reducible assumption) | assumption); have q392 : x5_1 < (l0.length : Int) := of_decide_eq_true (by first | (with_reducible assumption) | assumption); obtain ⟨ad392, A392_0, c392_0, e392, hx392_0, hl392_0, hi392_0⟩ := at_L4 (Kd.V_reads' HO_0.out).2.2 x5_1 p392 q392; obtain rfl : ad390 = ad392 := (by injection e392); obtain ⟨ce392, hce392, hMe392, hcc392⟩ := Kd.V_get HO_0.out [] x5_1 p392 (by first | exact q392 | exact of_decide_eq_true (by first | (with_reducible assumption) | assumption) | (have e_ := (Kd.V_reads' HO_0.out).1; omega)); obtain ⟨ua392_0, uc392_0, rfl, ul392_0, ge392_0⟩ := Kd.FK_slice_open hMe392; have hv392_0 := hcc392 0 _ rfl; rw [Nat.add_zero, show ((Kd.slice 36 k36)).sz = 1 from rfl, Nat.mul_one] at hv392_0; replace hv392_0 := Option.some.inj (hv392_0.symm.trans hx392_0); injection hv392_0 with hva_ hvn_ hvc_; rw [hva_] at ge392_0; rw [hvc_] at ul392_0; have HL392_0 := Aside0.mk (show Kd.V k36 36 _ w.heap.size _ _ (rd_L4 l0 x5_1) from Kd.V_mk ul392_0 ge392_0); clear hva_ hvn_ hvc_ ge392_0 ul392_0; clear hcc392 hce392; have HR392_0 := Aside0.mk hi392_0; have HC392_0 := Aside0.mk hl392_0; clear hi392_0 hl392_0; replace p392 := eq_true p392; replace q392 := eq_true q392; have ea_ := Option.some.inj (hx390_0.symm.trans hx392_0); injection ea_ with ea_ en_ ec_; subst ea_; subst ec_; clear en_) | ((with_reducible refine gate_dst (N := 28) rfl ?_); refine Kd.N_lit (Kd.slice 36 k36) _ 27 ?hg (N' := 28) ?hd (xs := ([rd_L4 l0 x5_1] : List (List (S36)))) (inner := [.slice A390_0 (rd_L4 l0 x5_1).length c390_0]) (ok := (fun k_ => (P0_ k_ ∨ w.heap.size ≤ k_) ∧ some k_ ≠ (u4 : Value).ownBlock)) (okp := (fun k_ => (P0_ k_ ∨ w.heap.size ≤ k_) ∧ some k_ ≠ (u4 : Value).ownBlock)) ?hr ?hp (fun _ hk => hk) ((show ∀ k_, wr.heap.size ≤ k_ → (fun k_ => (P0_ k_ ∨ w.heap.size ≤ k_) ∧ some k_ ≠ (u4 : Value).ownBlock) k_ from fun k_ hk => ⟨(.inr (Nat.le_trans (below_size (by repeat (first | (with_reducible first | exact HB.out | apply below_alloc | apply pw_below_drewN | apply below_drew1) | exact HB.out))) hk)), Kd.fresh' (Kd.N_lt (by (with_reducible repeat (first | apply Kd.N_alloc | apply Kd.N_drewN | apply Kd.N_drew)); exact HO_4.out)) k_ hk⟩) _ (Nat.le_refl _)) (Below.refl _ _) (Nat.le_refl _) (by simp) ?_; (case hd => rfl); (case hg => rfl); (case hr => first | (go_simp; done) | (go_simp; rfl)); (case hp => first | exact (Reps.one (show Kd.FK (Kd.slice 36 k36) _ _ (rd_L4 l0 x5_1) [.slice A390_0 (rd_L4 l0 x5_1).length c390_0] from (Kd.FK_slice_mk (Kd.V_reads' (Kd.V_mono (ok' := (fun k_ => (P0_ k_ ∨ w.heap.size ≤ k_) ∧ some k_ ≠ (u4 : Value).ownBlock)) (HL392_0.out) (fun k_ hk => ⟨hk.1, hk.2⟩))).2.1 (Kd.V_F (Kd.V_mono (ok' := (fun k_ => (P0_ k_ ∨ w.heap.size ≤ k_) ∧ some k_ ≠ (u4 : Value).ownBlock)) (HL392_0.out) (fun k_ hk => ⟨hk.1, hk.2⟩))))) (Reps.none _ _)) | exact (Reps.one (show Kd.FK (Kd.slice 36 k36) _ _ (rd_L4 l0 x5_1) [.slice A390_0 (rd_L4 l0 x5_1).length c390_0] from (Kd.FK_slice_mk (Kd.V_reads' (Kd.V_mono (ok' := (fun k_ => (P0_ k_ ∨ w.heap.size ≤ k_) ∧ some k_ ≠ (u4 : Value).ownBlock)) (HL392_0.out) (fun k_ hk => ⟨hk.1, hk.2⟩))).2.1 (Kd.V_F (Kd.V_mono (ok' := (fun k_ => (P0_ k_ ∨ w.heap.size ≤ k_) ∧ some k_ ≠ (u4 : Value).ownBlock)) (Kd.V_drewN HL392_0.out _) (fun k_ hk => ⟨hk.1, hk.2⟩))))) (Reps.none _ _))); intro v394 w9 ho10 hb hg_ hnew_; clear hg_ hnew_; (first | rw [← Ny393.out] at ho10 | (simp only [Int.reduceToNat] at ho10; rw [← Ny393.out] at ho10)); have n0_ := Aside0.mk (Kd.V_elder' (by (with_reducible repeat (first | apply Kd.V_alloc | apply Kd.V_drewN | apply Kd.V_drew)); exact HO_0.out) (Kd.N_base ho10) hb); have n1_ := Aside0.mk (Kd.N_elder' (by (with_reducible repeat (first | apply Kd.N_alloc | apply Kd.N_drewN | apply Kd.N_drew)); exact HO_4.out) (Kd.N_base ho10) hb); have n2_ := Aside0.mk (Kd.V_elder' (by (with_reducible repeat (first | apply Kd.V_alloc | apply Kd.V_drewN | apply Kd.V_drew)); exact HL390_0.out) (Kd.N_base ho10) hb); have n3_ := Aside0.mk (Kd.V_elder' (by (with_reducible repeat (first | apply Kd.V_alloc | apply Kd.V_drewN | apply Kd.V_drew)); exact HL392_0.out) (Kd.N_base ho10) hb); have n4_ := Aside0.mk (Kd.N_lower ho10 (below_size (by repeat (first | (with_reducible first | exact HB.out | apply below_alloc | apply pw_below_drewN | apply below_drew1) | exact HB.out)))); have n5_ := Aside0.mk (Kd.C_below (by repeat (first | (with_reducible exact HR390_0.out) | (with_reducible refine Kd.C_alloc ?_ _) | (with_reducible refine Kd.C_drewN ?_ _) | (with_reducible refine Kd.C_drew ?_) | exact HR390_0.out)) hb); have n6_ := Aside0.mk (Kd.C_below (by repeat (first | (with_reducible exact HR392_0.out) | (with_reducible refine Kd.C_alloc ?_ _) | (with_reducible refine Kd.C_drewN ?_ _) | (with_reducible refine Kd.C_drew ?_) | exact HR392_0.out)) hb); have n7_ := Aside0.mk (below_step (by repeat (first | (with_reducible first | exact HB.out | apply below_alloc | apply pw_below_drewN | apply below_drew1) | exact HB.out)) hb); clear HO_0; clear HO_4; clear HL390_0; clear HL392_0; clear HR390_0; clear HR392_0; clear HB; have HO_0 := n0_; have HO_4 := n1_; have HL390_0 := n2_; have HL392_0 := n3_; have HO395 := n4_; have HR390_0 := n5_; have HR392_0 := n6_; have HB := n7_; clear n0_ n1_ n2_ n3_ n4_ n5_ n6_ n7_; clear hb ho10; obtain ⟨Ao11, co11, eo11⟩ := Kd.N_slice HO395.out; subst eo11) | ((with_reducible refine gate_callee (f := 12) rfl ?_); refine goesL_ (some 29) rfl rfl Try.func12 (by kernel_rfl) rfl #[.slice Ao11 y393.length co11] rfl (by (try simp only [List.map_toArray, List.map_cons, List.map_nil]); first | done | rfl | (simp only [List.length_drop, List.length_take]; rfl)) ?_; (with_reducible refine (moultref12_Merge.calls k1 _ _ y393 t396 _ ?side1 ?side2 A7.out).mono ?_); (case side1 => repeat (first | exact (Kd.N_reads' HO395.out).2.2 | (with_reducible refine Kd.C_alloc ?_ _) | (with_reducible refine Kd.C_drewN ?_ _) | (with_reducible refine Kd.C_drew ?_))); (case side2 => exact (Kd.N_reads' HO395.out).2.1); rintro e w12 ⟨v397, rfl, ho0, hb⟩; refine ⟨_, rfl, ?_⟩; have n0_ := Aside0.mk (Kd.V_below (by (with_reducible repeat (first | apply Kd.V_alloc | apply Kd.V_drewN | apply Kd.V_drew)); exact HO_0.out) hb); have n1_ := Aside0.mk (Kd.N_below (by (with_reducible repeat (first | apply Kd.N_alloc | apply Kd.N_drewN | apply Kd.N_drew)); exact HO_4.out) hb); have n2_ := Aside0.mk (Kd.V_below (by (with_reducible repeat (first | apply Kd.V_alloc | apply Kd.V_drewN | apply Kd.V_drew)); exact HL390_0.out) hb); have n3_ := Aside0.mk (Kd.V_below (by (with_reducible repeat (first | apply Kd.V_alloc | apply Kd.V_drewN | apply Kd.V_drew)); exact HL392_0.out) hb); have n4_ := Aside0.mk (Kd.N_below (by (with_reducible repeat (first | apply Kd.N_alloc | apply Kd.N_drewN | apply Kd.N_drew)); exact HO395.out) hb); have n5_ := Aside0.mk (Kd.V_lower (Kd.V_mono (ok' := fun k_ => (P0_ k_ ∨ w.heap.size ≤ k_) ∧ some k_ ≠ (u4 : Value).ownBlock ∧ some k_ ≠ (.slice Ao11 y393.length co11 : Value).ownBlock) ho0 (fun k_ hk_ => ⟨(.inr (Nat.le_trans (below_size (by repeat (first | (with_reducible first | exact HB.out | apply below_alloc | apply pw_below_drewN | apply below_drew1) | exact HB.out))) hk_)), (Kd.fresh' (Kd.N_lt (by (with_reducible repeat (first | apply Kd.N_alloc | apply Kd.N_drewN | apply Kd.N_drew)); exact HO_4.out)) k_ hk_), (Kd.fresh' (Kd.N_lt (by (with_reducible repeat (first | apply Kd.N_alloc | apply Kd.N_drewN | apply Kd.N_drew)); exact HO395.out)) k_ hk_)⟩)) (below_size (by repeat (first | (with_reducible first | exact HB.out | apply below_alloc | apply pw_below_drewN | apply below_drew1) | exact HB.out)))); have n6_ := Aside0.mk (Kd.C_below (by repeat (first | (with_reducible exact HR390_0.out) | (with_reducible refine Kd.C_alloc ?_ _) | (with_reducible refine Kd.C_drewN ?_ _) | (with_reducible refine Kd.C_drew ?_) | exact HR390_0.out)) hb); have n7_ := Aside0.mk (Kd.C_below (by repeat (first | (with_reducible exact HR392_0.out) | (with_reducible refine Kd.C_alloc ?_ _) | (with_reducible refine Kd.C_drewN ?_ _) | (with_reducible refine Kd.C_drew ?_) | exact HR392_0.out)) hb); have n8_ := Aside0.mk (below_step (by repeat (first | (with_reducible first | exact HB.out | apply below_alloc | apply pw_below_drewN | apply below_drew1) | exact HB.out)) hb); clear HO_0; clear HO_4; clear HL390_0; clear HL392_0; clear HO395; clear HR390_0; clear HR392_0; clear HB; have HO_0 := n0_; have HO_4 := n1_; have HL390_0 := n2_; have HL392_0 := n3_; have HO395 := n4_; have HO398 := n5_; have HR390_0 := n6_; have HR392_0 := n7_; have HB := n8_; clear n0_ n1_ n2_ n3_ n4_ n5_ n6_ n7_ n8_; (try clear hb); (try clear hb2); (try clear hk); (try clear hi); (try clear ho0); obtain ⟨Ao14, co14, eo14⟩ := Kd.V_slice HO398.out; subst eo14) | ((with_reducible refine gate_builtin (b := .append) (xs := #[.tmp 23, .tmp 30]) rfl ?_); at_builtin; refine Kd.N_append (Kd.slice 36 k36) (w0 := w) w.heap.size rfl (.tmp 23) (.tmp 30) 22 27 (.slice none 0 0) 24 rfl Try.underlying22 info27 rfl (by decide) (by omega) u4 x4_1 t396 [.slice Ao14 t396.length co14] (fun k_ => (P0_ k_ ∨ w.heap.size ≤ k_) ∧ some k_ ≠ (.slice Ao11 y393.length co11 : Value).ownBlock) (fun k_ => ((fun k_ => (P0_ k_ ∨ w.heap.size ≤ k_) ∧ some k_ ≠ (.slice Ao11 y393.length co11 : Value).ownBlock)) k_ ∧ some k_ ≠ (u4 : Value).ownBlock) rfl rfl ?aP (fun _ hk => hk) ?aF ?aO ?aB ?aS ?aL ?_; (case aP => exact (Kd.FK_slice_mk (Kd.V_reads' (Kd.V_mono (ok' := (fun k_ => ((fun k_ => (P0_ k_ ∨ w.heap.size ≤ k_) ∧ some k_ ≠ (.slice Ao11 y393.length co11 : Value).ownBlock)) k_ ∧ some k_ ≠ (u4 : Value).ownBlock)) (HO398.out) (fun k_ hk => ⟨⟨hk.1, hk.2.2⟩, hk.2.1⟩))).2.1 (Kd.V_F (Kd.V_mono (ok' := (fun k_ => ((fun k_ => (P0_ k_ ∨ w.heap.size ≤ k_) ∧ some k_ ≠ (.slice Ao11 y393.length co11 : Value).ownBlock)) k_ ∧ some k_ ≠ (u4 : Value).ownBlock)) (HO398.out) (fun k_ hk => ⟨⟨hk.1, hk.2.2⟩, hk.2.1⟩))))); (case aB => exact (by repeat (first | (with_reducible first | exact HB.out | apply below_alloc | apply pw_below_drewN | apply below_drew1) | exact HB.out))); (case aF => exact (fun k_ hk => ⟨(.inr (Nat.le_trans (below_size (by repeat (first | (with_reducible first | exact HB.out | apply below_alloc | apply pw_below_drewN | apply below_drew1) | exact HB.out))) hk)), Kd.fresh' (Kd.N_lt (by (with_reducible repeat (first | apply Kd.N_alloc | apply Kd.N_drewN | apply Kd.N_drew)); exact HO395.out)) k_ hk⟩)); (case aO => exact (by (with_reducible repeat (first | apply Kd.N_alloc | apply Kd.N_drewN | apply Kd.N_drew)); exact HO_4.out)); (case aS => exact (below_size (by repeat (first | (with_reducible first | exact HB.out | apply below_alloc | apply pw_below_drewN | apply below_drew1) | exact HB.out)))); (case aL => have := LMc8.out; omega); intro v400 w13 ho hb hg hat; rw [← Ny399.out] at ho; have n0_ := Aside0.mk (Kd.V_afterv (ok := (fun k_ => (P0_ k_ ∨ w.heap.size ≤ k_) ∧ some k_ ≠ (.slice Ao11 y393.length co11 : Value).ownBlock)) (by (with_reducible repeat (first | apply Kd.V_alloc | apply Kd.V_drewN | apply Kd.V_drew)); exact Kd.V_mono HO_0.out (fun _ hk => ⟨⟨hk.1.1, hk.2⟩, hk.1.2⟩)) hg hat); have n1_ := Aside0.mk (Kd.V_afterv (ok := (fun k_ => (P0_ k_ ∨ w.heap.size ≤ k_) ∧ some k_ ≠ (.slice Ao11 y393.length co11 : Value).ownBlock)) (by (with_reducible repeat (first | apply Kd.V_alloc | apply Kd.V_drewN | apply Kd.V_drew)); exact Kd.V_mono HL390_0.out (fun _ hk => ⟨⟨hk.1.1, hk.2⟩, hk.1.2⟩)) hg hat); have n2_ := Aside0.mk (Kd.V_afterv (ok := (fun k_ => (P0_ k_ ∨ w.heap.size ≤ k_) ∧ some k_ ≠ (.slice Ao11 y393.length co11 : Value).ownBlock)) (by (with_reducible repeat (first | apply Kd.V_alloc | apply Kd.V_drewN | apply Kd.V_drew)); exact Kd.V_mono HL392_0.out (fun _ hk => ⟨⟨hk.1.1, hk.2⟩, hk.1.2⟩)) hg hat); have n3_ := Aside0.mk (Kd.N_afterv (ok := (fun k_ => (P0_ k_ ∨ w.heap.size ≤ k_))) (by (with_reducible repeat (first | apply Kd.N_alloc | apply Kd.N_drewN | apply Kd.N_drew)); exact HO395.out) hg hat); have n4_ := Aside0.mk (Kd.V_afterv (ok := (fun k_ => (P0_ k_ ∨ w.heap.size ≤ k_) ∧ some k_ ≠ (.slice Ao11 y393.length co11 : Value).ownBlock)) (by (with_reducible repeat (first | apply Kd.V_alloc | apply Kd.V_drewN | apply Kd.V_drew)); exact Kd.V_mono HO398.out (fun _ hk => ⟨⟨hk.1, hk.2.2⟩, hk.2.1⟩)) hg hat); have n5_ := Aside0.mk (hb); have n6_ := Aside0.mk (ho); clear HO_0; clear HL390_0; clear HL392_0; clear HO395; clear HO398; clear HB; clear HO_4; have HO_0 := n0_; have HL390_0 := n1_; have HL392_0 := n2_; have HO395 := n3_; have HO398 := n4_; have HB := n5_; have HO401 := n6_; clear n0_ n1_ n2_ n3_ n4_ n5_ n6_; clear ho hb hg hat))
        go_roundg k1
        case measure => have := HK1.out; omega
        case rel => exact ⟨(y399), (wrap64 (x5_1 + 1)), (by first | rfl | (simp; done) | (simp [*]; done)), H', ⟨by have := HK1.out; omega⟩, ⟨by (with_reducible repeat (first | apply Kd.V_alloc | apply Kd.V_drewN | apply Kd.V_drew)); exact Kd.V_mono HO_0.out (fun _ hk => ⟨hk.1.1, hk.2⟩)⟩, ⟨by (with_reducible repeat (first | apply Kd.N_alloc | apply Kd.N_drewN | apply Kd.N_drew)); exact Kd.N_mono HO401.out (fun _ hk => hk.1)⟩, ⟨by repeat (first | (with_reducible first | exact HB.out | apply below_alloc | apply pw_below_drewN | apply below_drew1) | exact HB.out)⟩⟩
       ·rw [if_neg c8] at H
        exact absurd H (by simp)
      ·replace c6 := Bool.eq_false_iff.mpr c6
       subst c6
       have H1 : (some (([] : List (List (S36))), false)) = some (r1, r2) := by rw [if_neg (show ¬ (false = true) by decide)] at H; exact H
       clear H
       have H := H1
       clear H1
       simp only [Option.some.injEq, Prod.mk.injEq] at H
       obtain ⟨rfl, rfl⟩ := H
       have p390 : 0 ≤ (x5_1 : Int) := of_decide_eq_true (by first | (with_reducible assumption) | assumption)
       have q390 : x5_1 < (l0.length : Int) := of_decide_eq_true (by first | (with_reducible assumption) | assumption)
       obtain ⟨ad390, A390_0, c390_0, e390, hx390_0, hl390_0, hi390_0⟩ := at_L4 (Kd.V_reads' HO_0.out).2.2 x5_1 p390 q390
       cases e390
       obtain ⟨ce390, hce390, hMe390, hcc390⟩ := Kd.V_get HO_0.out [] x5_1 p390 (by first | exact q390 | exact of_decide_eq_true (by first | (with_reducible assumption) | assumption) | (have e_ := (Kd.V_reads' HO_0.out).1; omega))
       obtain ⟨ua390_0, uc390_0, rfl, ul390_0, ge390_0⟩ := Kd.FK_slice_open hMe390
       have hv390_0 := hcc390 0 _ rfl
       rw [Nat.add_zero, show ((Kd.slice 36 k36)).sz = 1 from rfl, Nat.mul_one] at hv390_0
       replace hv390_0 := Option.some.inj (hv390_0.symm.trans hx390_0)
       injection hv390_0 with hva_ hvn_ hvc_
       rw [hva_] at ge390_0
       rw [hvc_] at ul390_0
       have HL390_0 := Aside0.mk (show Kd.V k36 36 _ w.heap.size _ _ (rd_L4 l0 x5_1) from Kd.V_mk ul390_0 ge390_0)
       clear hva_ hvn_ hvc_ ge390_0 ul390_0
       clear hcc390 hce390
       have HR390_0 := Aside0.mk hi390_0
       have HC390_0 := Aside0.mk hl390_0
       clear hi390_0 hl390_0
       replace p390 := eq_true p390
       replace q390 := eq_true q390
       go_wp2_with (first | ((with_reducible refine gate_callee (f := 18) rfl ?_); refine goesL_ (some 20) rfl rfl Try.func18 (by kernel_rfl) rfl #[.slice A390_0 (rd_L4 l0 x5_1).length c390_0] rfl (by (try simp only [List.map_toArray, List.map_cons, List.map_nil]); first | done | rfl | (simp only [List.length_drop, List.length_take]; rfl)) ?_; (with_reducible refine (moultlaw12_small.calls k1 _ _ (rd_L4 l0 x5_1) false _ ?side1 ?side2 A5.out).mono ?_); (case side1 => repeat (first | exact HR390_0.out | (with_reducible refine Kd.C_alloc ?_ _) | (with_reducible refine Kd.C_drewN ?_ _) | (with_reducible refine Kd.C_drew ?_))); (case side2 => exact HC390_0.out); rintro e w' ⟨rfl, ⟨nd, rfl⟩⟩; refine ⟨_, rfl, ?_⟩))
       go_ret2
       exact ⟨_, by first | rfl | (simp [errW_none, errW_some] <;> rfl) | (simp [*, errW_none, errW_some] <;> rfl), by first | exact Kd.S_nil _ _ _ _ _ | exact Kd.N_nil _ _ _ _ _ | exact Kd.V_nil _ _ _ _ _ | exact Kd.Q_nil _ _ _ _ _ | exact Kd.R_nil _ _ _ _ _, by repeat (first | (with_reducible first | exact HB.out | apply below_alloc | apply pw_below_drewN | apply below_drew1) | exact HB.out)⟩
     ·rw [if_neg c4] at H
      exact absurd H (by simp)
    ·rw [if_neg c3] at H
     have c3b0 : decide (x5_1 < (l0.length : Int)) = false := decide_eq_false c3
     clear c3
     simp only [Option.some.injEq, Prod.mk.injEq] at H
     obtain ⟨rfl, rfl⟩ := H
     go_wp2
     go_ret2
     exact ⟨_, by first | rfl | (simp [errW_none, errW_some] <;> rfl) | (simp [*, errW_none, errW_some] <;> rfl), by (with_reducible repeat (first | apply Kd.N_alloc | apply Kd.N_drewN | apply Kd.N_drew)); exact HO_4.out, by repeat (first | (with_reducible first | exact HB.out | apply below_alloc | apply pw_below_drewN | apply below_drew1) | exact HB.out)⟩

/-! ### moultref12_newest: function 30 -/
def moultref12_newest.l0 : Nat → List (S36) → ByteArray → Int → Int → Int → Option (Int)
 | 0, _, _, _, _, _ => none
 | k + 1, x0, x1, x2, x7, x8 => if x8 < (x0.length : Int) then (if 0 ≤ x8 then (if ((rd_T36 x0 x8).f0).toList = x1.toList then (if ((rd_T36 x0 x8).f1) ≤ x2 then (if x7 < 0 then (moultref12_newest.l0 k x0 x1 x2 x8 (wrap64 (x8 + 1))) else (if 0 ≤ x7 then (if x7 < (x0.length : Int) then (if ((rd_T36 x0 x8).f1) > ((rd_T36 x0 x7).f1) then (moultref12_newest.l0 k x0 x1 x2 x8 (wrap64 (x8 + 1))) else (moultref12_newest.l0 k x0 x1 x2 x7 (wrap64 (x8 + 1)))) else (none)) else (none))) else (moultref12_newest.l0 k x0 x1 x2 x7 (wrap64 (x8 + 1)))) else (moultref12_newest.l0 k x0 x1 x2 x7 (wrap64 (x8 + 1)))) else (none)) else (some x7)
def moultref12_newest.f (k : Nat) (l0 : List (S36)) (a1 : ByteArray) (a2 : Int) : Option (Int) := moultref12_newest.l0 k l0 a1 a2 (-1) 0
theorem moultref12_newest.mono_l : ∀ k, (∀ y0 y1 y2 y3 y4, LeO (moultref12_newest.l0 k y0 y1 y2 y3 y4) (moultref12_newest.l0 (k + 1) y0 y1 y2 y3 y4))
 | 0 => fun _ _ _ _ _ r h => by simp [moultref12_newest.l0] at h
 | k + 1 => by
  have ih0 := moultref12_newest.mono_l k
  ·intro y0 y1 y2 y3 y4
   unfold moultref12_newest.l0
   repeat' first
   | (with_reducible exact ih0 _ _ _ _ _)
   | (with_reducible exact LeO.refl _)
   | (with_reducible exact LeO.none _)
   | (with_reducible refine LeO.ite ?_ ?_)
   | (with_reducible refine LeO.bind ?_ (fun _ => ?_))
   | exact ih0 _ _ _ _ _
   | exact LeO.none _
   | refine LeO.ite ?_ ?_
   | refine LeO.bind ?_ (fun _ => ?_)
theorem moultref12_newest.mono : ∀ a0 a1 a2 k, LeO (moultref12_newest.f k a0 a1 a2) (moultref12_newest.f (k + 1) a0 a1 a2) := by
 intro a0 a1 a2 k
 have ih0 := moultref12_newest.mono_l k
 unfold moultref12_newest.f
 repeat' first
   | (with_reducible exact ih0 _ _ _ _ _)
   | (with_reducible exact LeO.refl _)
   | (with_reducible exact LeO.none _)
   | (with_reducible refine LeO.ite ?_ ?_)
   | (with_reducible refine LeO.bind ?_ (fun _ => ?_))
   | exact ih0 _ _ _ _ _
   | exact LeO.none _
   | refine LeO.ite ?_ ?_
   | refine LeO.bind ?_ (fun _ => ?_)
set_option maxHeartbeats 8000000 in
set_option maxRecDepth 100000 in
theorem moultref12_newest.calls (k : Nat) (A0 : Option Addr) (c0 : Nat) (l0 : List (S36)) (a1 : ByteArray) (a2 : Int) (r : Int) (w : World) (hr0 : Kd.C k36 w A0 l0.length l0) (hc0 : l0.length ≤ c0) (h : moultref12_newest.f k l0 a1 a2 = some r) :
  Calls Try.prog 30 #[.slice A0 l0.length c0, .string a1, .int .i64 a2] w fun e w' => e = .returned (.int .i64 r) ∧ Drawn0 w w' := by
 have HR0 := Aside0.mk hr0
 have HC0 := Aside0.mk hc0
 clear hr0 hc0
 have H : (moultref12_newest.l0 k l0 a1 a2 (-1) 0) = some r := h
 clear h
 have H' := Aside0.mk H
 clear H
 go_enter Try.func30, Try.ntmps30
 go_wp2
 repeat (go_quiet (fail); try go_wp2)
 go_loopg [7, 8] k (fun kq v7 v8 w' => ∃ (x7_1 : Int) (x8_1 : Int), v7 = .int .i64 x7_1 ∧ v8 = .int .i64 x8_1 ∧ Aside0 (moultref12_newest.l0 kq l0 a1 a2 x7_1 x8_1 = some r) ∧ Aside0 (kq ≤ k) ∧ Drawn0 w w')
 case atStart => exact ⟨((-1)), (0), (by first | rfl | (simp; done) | (simp [*]; done)), (by first | rfl | (simp; done) | (simp [*]; done)), H', ⟨Nat.le_refl _⟩, by repeat (first | exact Drawn0.refl _ | apply Drawn0.step)⟩
 case round =>
  clear H'
  try clear p2
  try clear c3
  obtain ⟨x7_1, x8_1, rfl, rfl, HA, HK1, ⟨m1, rfl⟩⟩ := hrel
  cases gk with
  | zero => exact absurd HA.out (by simp [moultref12_newest.l0])
  | succ k1 =>
   have H := HA.out
   clear HA
   simp only [moultref12_newest.l0] at H
   by_cases c4 : x8_1 < (l0.length : Int)
   ·rw [if_pos c4] at H
    have c4b0 : decide (x8_1 < (l0.length : Int)) = true := decide_eq_true c4
    clear c4
    by_cases c5 : 0 ≤ x8_1
    ·rw [if_pos c5] at H
     have c5b0 : decide (0 ≤ x8_1) = true := decide_eq_true c5
     clear c5
     by_cases c6 : ((rd_T36 l0 x8_1).f0).toList = a1.toList
     ·rw [if_pos c6] at H
      have c6b0 : (((rd_T36 l0 x8_1).f0).toList == a1.toList) = true := beq_iff_eq.mpr c6
      have c6b1 : (((rd_T36 l0 x8_1).f0).toList != a1.toList) = false := bne_eq_false_iff_eq.mpr c6
      clear c6
      by_cases c7 : ((rd_T36 l0 x8_1).f1) ≤ a2
      ·rw [if_pos c7] at H
       have c7b0 : decide (((rd_T36 l0 x8_1).f1) ≤ a2) = true := decide_eq_true c7
       clear c7
       by_cases c8 : x7_1 < 0
       ·rw [if_pos c8] at H
        have c8b0 : decide (x7_1 < 0) = true := decide_eq_true c8
        clear c8
        have H' := Aside0.mk H
        clear H
        have p402 : 0 ≤ (x8_1 : Int) := of_decide_eq_true (by first | (with_reducible assumption) | assumption)
        have q402 : x8_1 < (l0.length : Int) := of_decide_eq_true (by first | (with_reducible assumption) | assumption)
        obtain ⟨ad402, e402, hx402_0, hx402_1, hx402_2, hx402_3⟩ := at_T36 HR0.out x8_1 p402 q402
        cases e402
        replace p402 := eq_true p402
        replace q402 := eq_true q402
        have p403 : 0 ≤ (x8_1 : Int) := of_decide_eq_true (by first | (with_reducible assumption) | assumption)
        have q403 : x8_1 < (l0.length : Int) := of_decide_eq_true (by first | (with_reducible assumption) | assumption)
        obtain ⟨ad403, e403, hx403_0, hx403_1, hx403_2, hx403_3⟩ := at_T36 HR0.out x8_1 p403 q403
        obtain rfl : ad402 = ad403 := (by injection e403)
        replace p403 := eq_true p403
        replace q403 := eq_true q403
        go_wp2
        repeat (go_quiet (fail); try go_wp2)
        go_roundg k1
        case measure => have := HK1.out; omega
        case rel => exact ⟨(x8_1), (wrap64 (x8_1 + 1)), (by first | rfl | (simp; done) | (simp [*]; done)), (by first | rfl | (simp; done) | (simp [*]; done)), H', ⟨by have := HK1.out; omega⟩, by repeat (first | exact Drawn0.refl _ | apply Drawn0.step)⟩
       ·rw [if_neg c8] at H
        have c8b0 : decide (x7_1 < 0) = false := decide_eq_false c8
        clear c8
        by_cases c9 : 0 ≤ x7_1
        ·rw [if_pos c9] at H
         have c9b0 : decide (0 ≤ x7_1) = true := decide_eq_true c9
         clear c9
         by_cases c10 : x7_1 < (l0.length : Int)
         ·rw [if_pos c10] at H
          have c10b0 : decide (x7_1 < (l0.length : Int)) = true := decide_eq_true c10
          clear c10
          by_cases c11 : ((rd_T36 l0 x8_1).f1) > ((rd_T36 l0 x7_1).f1)
          ·rw [if_pos c11] at H
           have c11b0 : decide (((rd_T36 l0 x7_1).f1) < ((rd_T36 l0 x8_1).f1)) = true := decide_eq_true c11
           clear c11
           have H' := Aside0.mk H
           clear H
           have p402 : 0 ≤ (x8_1 : Int) := of_decide_eq_true (by first | (with_reducible assumption) | assumption)
           have q402 : x8_1 < (l0.length : Int) := of_decide_eq_true (by first | (with_reducible assumption) | assumption)
           obtain ⟨ad402, e402, hx402_0, hx402_1, hx402_2, hx402_3⟩ := at_T36 HR0.out x8_1 p402 q402
           cases e402
           replace p402 := eq_true p402
           replace q402 := eq_true q402
           have p403 : 0 ≤ (x8_1 : Int) := of_decide_eq_true (by first | (with_reducible assumption) | assumption)
           have q403 : x8_1 < (l0.length : Int) := of_decide_eq_true (by first | (with_reducible assumption) | assumption)
           obtain ⟨ad403, e403, hx403_0, hx403_1, hx403_2, hx403_3⟩ := at_T36 HR0.out x8_1 p403 q403
           obtain rfl : ad402 = ad403 := (by injection e403)
           replace p403 := eq_true p403
           replace q403 := eq_true q403
           have p404 : 0 ≤ (x8_1 : Int) := of_decide_eq_true (by first | (with_reducible assumption) | assumption)
           have q404 : x8_1 < (l0.length : Int) := of_decide_eq_true (by first | (with_reducible assumption) | assumption)
           obtain ⟨ad404, e404, hx404_0, hx404_1, hx404_2, hx404_3⟩ := at_T36 HR0.out x8_1 p404 q404
           obtain rfl : ad402 = ad404 := (by injection e404)
           replace p404 := eq_true p404
           replace q404 := eq_true q404
           have p405 : 0 ≤ (x7_1 : Int) := of_decide_eq_true (by first | (with_reducible assumption) | assumption)
           have q405 : x7_1 < (l0.length : Int) := of_decide_eq_true (by first | (with_reducible assumption) | assumption)
           obtain ⟨ad405, e405, hx405_0, hx405_1, hx405_2, hx405_3⟩ := at_T36 HR0.out x7_1 p405 q405
           obtain rfl : ad402 = ad405 := (by injection e405)
           replace p405 := eq_true p405
           replace q405 := eq_true q405
           go_wp2
           repeat (go_quiet (fail); try go_wp2)
           go_roundg k1
           case measure => have := HK1.out; omega
           case rel => exact ⟨(x8_1), (wrap64 (x8_1 + 1)), (by first | rfl | (simp; done) | (simp [*]; done)), (by first | rfl | (simp; done) | (simp [*]; done)), H', ⟨by have := HK1.out; omega⟩, by repeat (first | exact Drawn0.refl _ | apply Drawn0.step)⟩
          ·rw [if_neg c11] at H
           have c11b0 : decide (((rd_T36 l0 x7_1).f1) < ((rd_T36 l0 x8_1).f1)) = false := decide_eq_false c11
           clear c11
           have H' := Aside0.mk H
           clear H
           have p402 : 0 ≤ (x8_1 : Int) := of_decide_eq_true (by first | (with_reducible assumption) | assumption)
           have q402 : x8_1 < (l0.length : Int) := of_decide_eq_true (by first | (with_reducible assumption) | assumption)
           obtain ⟨ad402, e402, hx402_0, hx402_1, hx402_2, hx402_3⟩ := at_T36 HR0.out x8_1 p402 q402
           cases e402
           replace p402 := eq_true p402
           replace q402 := eq_true q402
           have p403 : 0 ≤ (x8_1 : Int) := of_decide_eq_true (by first | (with_reducible assumption) | assumption)
           have q403 : x8_1 < (l0.length : Int) := of_decide_eq_true (by first | (with_reducible assumption) | assumption)
           obtain ⟨ad403, e403, hx403_0, hx403_1, hx403_2, hx403_3⟩ := at_T36 HR0.out x8_1 p403 q403
           obtain rfl : ad402 = ad403 := (by injection e403)
           replace p403 := eq_true p403
           replace q403 := eq_true q403
           have p404 : 0 ≤ (x8_1 : Int) := of_decide_eq_true (by first | (with_reducible assumption) | assumption)
           have q404 : x8_1 < (l0.length : Int) := of_decide_eq_true (by first | (with_reducible assumption) | assumption)
           obtain ⟨ad404, e404, hx404_0, hx404_1, hx404_2, hx404_3⟩ := at_T36 HR0.out x8_1 p404 q404
           obtain rfl : ad402 = ad404 := (by injection e404)
           replace p404 := eq_true p404
           replace q404 := eq_true q404
           have p405 : 0 ≤ (x7_1 : Int) := of_decide_eq_true (by first | (with_reducible assumption) | assumption)
           have q405 : x7_1 < (l0.length : Int) := of_decide_eq_true (by first | (with_reducible assumption) | assumption)
           obtain ⟨ad405, e405, hx405_0, hx405_1, hx405_2, hx405_3⟩ := at_T36 HR0.out x7_1 p405 q405
           obtain rfl : ad402 = ad405 := (by injection e405)
           replace p405 := eq_true p405
           replace q405 := eq_true q405
           go_wp2
           repeat (go_quiet (fail); try go_wp2)
           go_roundg k1
           case measure => have := HK1.out; omega
           case rel => exact ⟨(x7_1), (wrap64 (x8_1 + 1)), (by first | rfl | (simp; done) | (simp [*]; done)), (by first | rfl | (simp; done) | (simp [*]; done)), H', ⟨by have := HK1.out; omega⟩, by repeat (first | exact Drawn0.refl _ | apply Drawn0.step)⟩
         ·rw [if_neg c10] at H
          exact absurd H (by simp)
        ·rw [if_neg c9] at H
         exact absurd H (by simp)
      ·rw [if_neg c7] at H
       have c7b0 : decide (((rd_T36 l0 x8_1).f1) ≤ a2) = false := decide_eq_false c7
       clear c7
       have H' := Aside0.mk H
       clear H
       have p402 : 0 ≤ (x8_1 : Int) := of_decide_eq_true (by first | (with_reducible assumption) | assumption)
       have q402 : x8_1 < (l0.length : Int) := of_decide_eq_true (by first | (with_reducible assumption) | assumption)
       obtain ⟨ad402, e402, hx402_0, hx402_1, hx402_2, hx402_3⟩ := at_T36 HR0.out x8_1 p402 q402
       cases e402
       replace p402 := eq_true p402
       replace q402 := eq_true q402
       have p403 : 0 ≤ (x8_1 : Int) := of_decide_eq_true (by first | (with_reducible assumption) | assumption)
       have q403 : x8_1 < (l0.length : Int) := of_decide_eq_true (by first | (with_reducible assumption) | assumption)
       obtain ⟨ad403, e403, hx403_0, hx403_1, hx403_2, hx403_3⟩ := at_T36 HR0.out x8_1 p403 q403
       obtain rfl : ad402 = ad403 := (by injection e403)
       replace p403 := eq_true p403
       replace q403 := eq_true q403
       go_wp2
       repeat (go_quiet (fail); try go_wp2)
       go_roundg k1
       case measure => have := HK1.out; omega
       case rel => exact ⟨(x7_1), (wrap64 (x8_1 + 1)), (by first | rfl | (simp; done) | (simp [*]; done)), (by first | rfl | (simp; done) | (simp [*]; done)), H', ⟨by have := HK1.out; omega⟩, by repeat (first | exact Drawn0.refl _ | apply Drawn0.step)⟩
     ·rw [if_neg c6] at H
      have c6b0 : (((rd_T36 l0 x8_1).f0).toList == a1.toList) = false := beq_eq_false_iff_ne.mpr c6
      have c6b1 : (((rd_T36 l0 x8_1).f0).toList != a1.toList) = true := bne_iff_ne.mpr c6
      have H' := Aside0.mk H
      clear H
      have p402 : 0 ≤ (x8_1 : Int) := of_decide_eq_true (by first | (with_reducible assumption) | assumption)
      have q402 : x8_1 < (l0.length : Int) := of_decide_eq_true (by first | (with_reducible assumption) | assumption)
      obtain ⟨ad402, e402, hx402_0, hx402_1, hx402_2, hx402_3⟩ := at_T36 HR0.out x8_1 p402 q402
      cases e402
      replace p402 := eq_true p402
      replace q402 := eq_true q402
      go_wp2
      repeat (go_quiet (fail); try go_wp2)
      go_roundg k1
      case measure => have := HK1.out; omega
      case rel => exact ⟨(x7_1), (wrap64 (x8_1 + 1)), (by first | rfl | (simp; done) | (simp [*]; done)), (by first | rfl | (simp; done) | (simp [*]; done)), H', ⟨by have := HK1.out; omega⟩, by repeat (first | exact Drawn0.refl _ | apply Drawn0.step)⟩
    ·rw [if_neg c5] at H
     exact absurd H (by simp)
   ·rw [if_neg c4] at H
    have c4b0 : decide (x8_1 < (l0.length : Int)) = false := decide_eq_false c4
    clear c4
    obtain rfl := Option.some.inj H
    go_wp2
    repeat (go_quiet (fail); try go_wp2)
    go_ret
    exact ⟨by first | rfl | (simp; done) | (simp [*]; done), by repeat (first | exact Drawn0.refl _ | apply Drawn0.step)⟩

end Go.Proofs.Ythdoanbadhfhjaa.PAll

-- slimmed
