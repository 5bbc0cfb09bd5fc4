-- Laid by ownprint.py (a program of the session, in wip/tools), out of the translation: Lean checks it.
import Derived.Test.YthdoanbadhfhjaaPAllx0
import Derived.Test.YthdoanbadhfhjaaGv
import Derived.Test.YthdoanbadhfhjaaGw
namespace Go.Proofs.Ythdoanbadhfhjaa.PAll
open Go.RowKit Go.Proofs.YthdoanbadhfhjaaW.PrintWords Go.Proofs.YthdoanbadhfhjaaW.PrintLast Go.Proofs.YthdoanbadhfhjaaW.PrintMore
attribute [local go_sem] max2_int min2_int max_two min_two max_three min_three max_four min_four   -- for this text's walks alone
set_option linter.unusedVariables false
set_option linter.unusedSimpArgs false

/-! ### merge_groups: function 28 -/
mutual
def merge_groups.l0 : Nat → List (S36) → List (List (S36)) → Option ((List (List (S36))))
 | 0, _, _ => none
 | k + 1, x0, x3 => if (x0.length : Int) > 0 then (merge_groups.l1 k x0 x3 1) else (some x3)
def merge_groups.l1 : Nat → List (S36) → List (List (S36)) → Int → Option ((List (List (S36))))
 | 0, _, _, _ => none
 | k + 1, x0, x3, x4 => if x4 < (x0.length : Int) then (if 0 ≤ x4 then (if 0 < (x0.length : Int) then (if ((rd_T36 x0 x4).f0).toList = ((rd_T36 x0 0).f0).toList then (merge_groups.l1 k x0 x3 (wrap64 (x4 + 1))) else (if x4 ≤ (x0.length : Int) then (if x3.length < 5864062014805 then (merge_groups.l0 k (x0.drop (x4 : Int).toNat) (x3 ++ [(x0.take (x4 : Int).toNat)])) else (none)) else (none))) else (none)) else (none)) else (if 0 ≤ x4 then (if x4 ≤ (x0.length : Int) then (if x3.length < 5864062014805 then (merge_groups.l0 k (x0.drop (x4 : Int).toNat) (x3 ++ [(x0.take (x4 : Int).toNat)])) else (none)) else (none)) else (none))
end
def merge_groups.f (k : Nat) (l0 : List (S36)) : Option ((List (List (S36)))) := merge_groups.l0 k l0 ([] : List (List (S36)))
theorem merge_groups.mono_l : ∀ k, (∀ y0 y1, LeO (merge_groups.l0 k y0 y1) (merge_groups.l0 (k + 1) y0 y1)) ∧ (∀ y0 y1 y2, LeO (merge_groups.l1 k y0 y1 y2) (merge_groups.l1 (k + 1) y0 y1 y2))
 | 0 => ⟨fun _ _ r h => by simp [merge_groups.l0] at h, fun _ _ _ r h => by simp [merge_groups.l1] at h⟩
 | k + 1 => by
  obtain ⟨ih0, ih1⟩ := merge_groups.mono_l k
  refine ⟨?_, ?_⟩
  ·intro y0 y1
   unfold merge_groups.l0
   repeat' first
   | (with_reducible exact ih0 _ _)
   | (with_reducible exact ih1 _ _ _)
   | (with_reducible exact LeO.refl _)
   | (with_reducible exact LeO.none _)
   | (with_reducible refine LeO.ite ?_ ?_)
   | (with_reducible refine LeO.bind ?_ (fun _ => ?_))
   | exact ih0 _ _
   | exact ih1 _ _ _
   | exact LeO.none _
   | refine LeO.ite ?_ ?_
   | refine LeO.bind ?_ (fun _ => ?_)
  ·intro y0 y1 y2
   unfold merge_groups.l1
   repeat' first
   | (with_reducible exact ih0 _ _)
   | (with_reducible exact ih1 _ _ _)
   | (with_reducible exact LeO.refl _)
   | (with_reducible exact LeO.none _)
   | (with_reducible refine LeO.ite ?_ ?_)
   | (with_reducible refine LeO.bind ?_ (fun _ => ?_))
   | exact ih0 _ _
   | exact ih1 _ _ _
   | exact LeO.none _
   | refine LeO.ite ?_ ?_
   | refine LeO.bind ?_ (fun _ => ?_)
theorem merge_groups.mono : ∀ a0 k, LeO (merge_groups.f k a0) (merge_groups.f (k + 1) a0) := by
 intro a0 k
 obtain ⟨ih0, ih1⟩ := merge_groups.mono_l k
 unfold merge_groups.f
 repeat' first
   | (with_reducible exact ih0 _ _)
   | (with_reducible exact ih1 _ _ _)
   | (with_reducible exact LeO.refl _)
   | (with_reducible exact LeO.none _)
   | (with_reducible refine LeO.ite ?_ ?_)
   | (with_reducible refine LeO.bind ?_ (fun _ => ?_))
   | exact ih0 _ _
   | exact ih1 _ _ _
   | exact LeO.none _
   | refine LeO.ite ?_ ?_
   | refine LeO.bind ?_ (fun _ => ?_)
def merge_groups.T4 : Bool × List (List Nat × List Nat) := (true, [([], []), ([], []), ([1], [1]), ([0, 2], [0, 2]), ([3], [3]), ([4], [4]), ([4], [4]), ([5, 6, 4], [4, 5, 6]), ([7, 4], [4, 7]), ([8, 4], [4, 8]), ([4], [4]), ([10, 4], [4, 10]), ([11, 4], [4, 11]), ([12, 4], [4, 12]), ([9, 13, 4], [4, 9, 13]), ([4, 14], [4, 14])])
def merge_groups.B4 : List Nat := [0, 0, 2, 7, 15, 31, 31, 127, 255, 511, 31, 1055, 3103, 7199, 16383, 32767]
theorem merge_groups.tab4 : rtab .any (opsOf Try.f28 4) = merge_groups.T4 := by kernel_rfl
theorem merge_groups.bits4 : waitsOk merge_groups.T4.2 merge_groups.B4 = true := by kernel_rfl
def merge_groups.T6 : Bool × List (List Nat × List Nat) := (true, [([], []), ([], []), ([], []), ([1, 2], [1, 2]), ([3], [3]), ([0, 4], [0, 4]), ([], []), ([], []), ([6, 7], [6, 7]), ([5, 5, 0, 1, 2, 3, 4, 5], [0, 5]), ([8, 9, 0, 1, 2, 3, 4, 5, 6, 7, 8, 9], [1, 6, 8])])
def merge_groups.B6 : List Nat := [0, 0, 0, 6, 14, 31, 0, 0, 192, 63, 1023]
theorem merge_groups.tab6 : rtab .any (opsOf Try.f28 6) = merge_groups.T6 := by kernel_rfl
theorem merge_groups.bits6 : waitsOk merge_groups.T6.2 merge_groups.B6 = true := by kernel_rfl
set_option maxHeartbeats 8000000 in
set_option maxRecDepth 100000 in
theorem merge_groups.calls (k : Nat) (P0_ : Nat → Prop) (A0 : Option Addr) (c0 : Nat) (l0 : List (S36)) (r : List (List (S36))) (w : World) (hs0 : Kd.V k36 36 w w.heap.size (fun k_ => P0_ k_) (.slice A0 l0.length c0) l0) (h : merge_groups.f k l0 = some r) :
  Calls Try.prog 28 #[.slice A0 l0.length c0] w fun e w' => ∃ v0_ : Value, e = .returned (v0_) ∧ Kd.N (Kd.slice 36 k36) 27 w' w.heap.size (fun k_ => (P0_ k_ ∨ w.heap.size ≤ k_)) v0_ r ∧ Below w.heap.size w w' := by
 have HO0 := Aside0.mk (show Kd.V k36 36 w w.heap.size (fun k_ => (P0_ k_ ∨ w.heap.size ≤ k_)) (.slice A0 l0.length c0) l0 from Kd.V_mono hs0 (fun k_ hk => .inl hk))
 have HB := Aside0.mk (Below.refl w.heap.size w)
 have H : (merge_groups.l0 k l0 ([] : List (List (S36)))) = some r := h
 clear h
 have H' := Aside0.mk H
 clear H
 go_enter Try.func28, Try.ntmps28
 go_wp2
 go_loopg [0, 3] k (fun kq v0 v3 w' => ∃ (x0_1 : List (S36)) (x3_1 : List (List (S36))), Aside0 (merge_groups.l0 kq x0_1 x3_1 = some r) ∧ Aside0 (kq ≤ k) ∧ Aside0 (Kd.V k36 36 w' w.heap.size (fun k_ => (P0_ k_ ∨ w.heap.size ≤ k_) ∧ some k_ ≠ (v3 : Value).ownBlock) v0 x0_1) ∧ Aside0 (Kd.N (Kd.slice 36 k36) 27 w' w.heap.size (fun k_ => (P0_ k_ ∨ w.heap.size ≤ k_)) v3 x3_1) ∧ Aside0 (Below w.heap.size w w'))
 case atStart => exact ⟨(l0), (([] : List (List (S36)))), H', ⟨Nat.le_refl _⟩, ⟨by (with_reducible repeat (first | apply Kd.V_alloc | apply Kd.V_drewN | apply Kd.V_drew)); exact Kd.V_mono HO0.out (fun _ hk => ⟨hk, (by simp [Value.ownBlock])⟩)⟩, ⟨by first | exact Kd.S_nil _ _ _ _ _ | exact Kd.N_nil _ _ _ _ _ | exact Kd.V_nil _ _ _ _ _ | exact Kd.Q_nil _ _ _ _ _ | exact Kd.R_nil _ _ _ _ _⟩, ⟨by repeat (first | (with_reducible first | exact HB.out | apply below_alloc | apply pw_below_drewN | apply below_drew1) | exact HB.out)⟩⟩
 case round =>
  clear H'
  obtain ⟨x0_1, x3_1, HA, HK1, HO_0, HO_3, HB⟩ := hrel
  cases gk with
  | zero => exact absurd HA.out (by simp [merge_groups.l0])
  | succ k1 =>
   have H := HA.out
   clear HA
   simp only [merge_groups.l0] at H
   by_cases c2 : (x0_1.length : Int) > 0
   ·rw [if_pos c2] at H
    have c2b0 : decide (0 < (x0_1.length : Int)) = true := decide_eq_true c2
    have c2b1 : decide (0 < x0_1.length) = true := decide_eq_true (by omega)
    clear c2
    have H' := Aside0.mk H
    clear H
    obtain ⟨Ao3, co3, eo3⟩ := Kd.V_slice HO_0.out
    subst eo3
    go_wp2
    go_loopg [4] k1 (fun kq v4 w' => ∃ (x4_2 : Int), v4 = .int .i64 x4_2 ∧ Aside0 (merge_groups.l1 kq x0_1 x3_1 x4_2 = some r) ∧ Aside0 (kq ≤ k1) ∧ Aside0 (Kd.V k36 36 w' w.heap.size (fun k_ => (P0_ k_ ∨ w.heap.size ≤ k_) ∧ some k_ ≠ (u3 : Value).ownBlock) (.slice Ao3 x0_1.length co3) x0_1) ∧ Aside0 (Kd.N (Kd.slice 36 k36) 27 w' w.heap.size (fun k_ => (P0_ k_ ∨ w.heap.size ≤ k_)) u3 x3_1) ∧ Aside0 (Below w.heap.size w w'))
    case atStart => exact ⟨(1), (by first | rfl | (simp; done) | (simp [*]; done)), H', ⟨Nat.le_refl _⟩, ⟨by (with_reducible repeat (first | apply Kd.V_alloc | apply Kd.V_drewN | apply Kd.V_drew)); exact HO_0.out⟩, ⟨by (with_reducible repeat (first | apply Kd.N_alloc | apply Kd.N_drewN | apply Kd.N_drew)); exact HO_3.out⟩, ⟨by repeat (first | (with_reducible first | exact HB.out | apply below_alloc | apply pw_below_drewN | apply below_drew1) | exact HB.out)⟩⟩
    case round =>
     clear H'
     try clear c2
     try clear c2b0
     try clear c2b1
     try clear p2
     obtain ⟨x4_2, rfl, HA, HK2, HO_0, HO_3, HB⟩ := hrel
     cases gk with
     | zero => exact absurd HA.out (by simp [merge_groups.l1])
     | succ k2 =>
      have H := HA.out
      clear HA
      simp only [merge_groups.l1] at H
      by_cases c4 : x4_2 < (x0_1.length : Int)
      ·rw [if_pos c4] at H
       have c4b0 : decide (x4_2 < (x0_1.length : Int)) = true := decide_eq_true c4
       clear c4
       by_cases c5 : 0 ≤ x4_2
       ·rw [if_pos c5] at H
        have c5b0 : decide (0 ≤ x4_2) = true := decide_eq_true c5
        clear c5
        by_cases c6 : 0 < (x0_1.length : Int)
        ·rw [if_pos c6] at H
         have c6b0 : decide (0 < (x0_1.length : Int)) = true := decide_eq_true c6
         have c6b1 : decide (0 < x0_1.length) = true := decide_eq_true (by omega)
         clear c6
         by_cases c7 : ((rd_T36 x0_1 x4_2).f0).toList = ((rd_T36 x0_1 0).f0).toList
         ·rw [if_pos c7] at H
          have c7b0 : (((rd_T36 x0_1 x4_2).f0).toList == ((rd_T36 x0_1 0).f0).toList) = true := beq_iff_eq.mpr c7
          have c7b1 : (((rd_T36 x0_1 x4_2).f0).toList != ((rd_T36 x0_1 0).f0).toList) = false := bne_eq_false_iff_eq.mpr c7
          clear c7
          have H' := Aside0.mk H
          clear H
          try go_wp2
          have n0_ := Aside0.mk (Kd.V_drew HO_0.out)
          have n1_ := Aside0.mk (Kd.N_drew HO_3.out)
          have n2_ := Aside0.mk (below_drew1 HB.out)
          clear HO_0
          clear HO_3
          clear HB
          have HO_0 := n0_
          have HO_3 := n1_
          have HB := n2_
          clear n0_ n1_ n2_
          have p176 : 0 ≤ (x4_2 : Int) := of_decide_eq_true (by first | (with_reducible assumption) | assumption)
          have q176 : x4_2 < (x0_1.length : Int) := of_decide_eq_true (by first | (with_reducible assumption) | assumption)
          obtain ⟨ad176, e176, hx176_0, hx176_1, hx176_2, hx176_3⟩ := at_T36 (Kd.V_reads' HO_0.out).2.2 x4_2 p176 q176
          cases e176
          replace p176 := eq_true p176
          replace q176 := eq_true q176
          have p177 : 0 ≤ (0 : Int) := (by omega)
          have q177 : 0 < (x0_1.length : Int) := of_decide_eq_true (by first | (with_reducible assumption) | assumption)
          obtain ⟨ad177, e177, hx177_0, hx177_1, hx177_2, hx177_3⟩ := at_T36 (Kd.V_reads' HO_0.out).2.2 0 p177 q177
          obtain rfl : ad176 = ad177 := (by injection e177)
          have qi177 : (0 < x0_1.length) = True := eq_true (by omega)
          (try rw [show ((0 : Int)).toNat = 0 from rfl] at hx177_0)
          (try rw [show 0 * 4 = 0 from rfl] at hx177_0)
          (try rw [Addr.add_zero'] at hx177_0)
          (try rw [show ((0 : Int)).toNat = 0 from rfl] at hx177_1)
          (try rw [show 0 * 4 = 0 from rfl] at hx177_1)
          (try rw [Addr.add_zero'] at hx177_1)
          (try rw [show ((0 : Int)).toNat = 0 from rfl] at hx177_2)
          (try rw [show 0 * 4 = 0 from rfl] at hx177_2)
          (try rw [Addr.add_zero'] at hx177_2)
          (try rw [show ((0 : Int)).toNat = 0 from rfl] at hx177_3)
          (try rw [show 0 * 4 = 0 from rfl] at hx177_3)
          (try rw [Addr.add_zero'] at hx177_3)
          replace p177 := eq_true p177
          replace q177 := eq_true q177
          refine start_ (n := 16) (S := fun w' => w'.cell? (ad176.add ((x4_2).toNat * 4)) = some (.string ((rd_T36 x0_1 x4_2).f0)) ∧ w'.cell? ⟨(ad176.add ((x4_2).toNat * 4)).block, (ad176.add ((x4_2).toNat * 4)).off + 1, none⟩ = some (.int .i64 ((rd_T36 x0_1 x4_2).f1)) ∧ w'.cell? ⟨(ad176.add ((x4_2).toNat * 4)).block, (ad176.add ((x4_2).toNat * 4)).off + 2, none⟩ = some (.bool ((rd_T36 x0_1 x4_2).f2)) ∧ w'.cell? ⟨(ad176.add ((x4_2).toNat * 4)).block, (ad176.add ((x4_2).toNat * 4)).off + 3, none⟩ = some (.string ((rd_T36 x0_1 x4_2).f3)) ∧ w'.cell? ad176 = some (.string ((rd_T36 x0_1 0).f0)) ∧ w'.cell? ⟨ad176.block, ad176.off + 1, none⟩ = some (.int .i64 ((rd_T36 x0_1 0).f1)) ∧ w'.cell? ⟨ad176.block, ad176.off + 2, none⟩ = some (.bool ((rd_T36 x0_1 0).f2)) ∧ w'.cell? ⟨ad176.block, ad176.off + 3, none⟩ = some (.string ((rd_T36 x0_1 0).f3))) (ds := []) #[ff, ff, ff, ff, ff, ff, ff, ff, ff, ff, ff, ff, ff, ff, ff, ff] (by kernel_rfl) rfl rfl ⟨hx176_0, hx176_1, hx176_2, hx176_3, hx177_0, hx177_1, hx177_2, hx177_3⟩ (fun hHeld => ?_); refine with_tabW merge_groups.tab4 merge_groups.bits4 (fun HT_ HW_ => ?_)
          generalize wr.drew = w8 at HO_0 HO_3 HB hx176_0 hx176_1 hx176_2 hx176_3 hx177_0 hx177_1 hx177_2 hx177_3 hHeld ⊢
          refine pq_ (i := 0) (N := some 8) HT_ #[tt, ff, ff, ff, ff, ff, ff, ff, ff, ff, ff, ff, ff, ff, ff, ff] ?_
          refine pq_ (i := 1) (N := some 9) HT_ #[tt, tt, ff, ff, ff, ff, ff, ff, ff, ff, ff, ff, ff, ff, ff, ff] ?_
          refine pq_ (i := 2) (N := some 10) HT_ #[tt, tt, tt, ff, ff, ff, ff, ff, ff, ff, ff, ff, ff, ff, ff, ff] ?_
          refine pq_ (i := 3) (N := some 11) HT_ #[tt, tt, tt, tt, ff, ff, ff, ff, ff, ff, ff, ff, ff, ff, ff, ff] ?_
          refine pq_ (i := 4) (N := some 12) HT_ #[tt, tt, tt, tt, tt, ff, ff, ff, ff, ff, ff, ff, ff, ff, ff, ff] ?_
          refine pq_ (i := 5) (N := some 13) HT_ #[tt, tt, tt, tt, tt, tt, ff, ff, ff, ff, ff, ff, ff, ff, ff, ff] ?_
          refine pq_ (i := 6) (N := some 14) HT_ #[tt, tt, tt, tt, tt, tt, tt, ff, ff, ff, ff, ff, ff, ff, ff, ff] ?_
          refine pq_ (i := 7) (N := some 15) HT_ #[tt, tt, tt, tt, tt, tt, tt, tt, ff, ff, ff, ff, ff, ff, ff, ff] ?_
          refine pq_ (i := 8) (N := some 16) HT_ #[tt, tt, tt, tt, tt, tt, tt, tt, tt, ff, ff, ff, ff, ff, ff, ff] ?_
          refine pq_ (i := 10) (N := some 18) HT_ #[tt, tt, tt, tt, tt, tt, tt, tt, tt, ff, tt, ff, ff, ff, ff, ff] ?_
          refine pq_ (i := 11) (N := some 19) HT_ #[tt, tt, tt, tt, tt, tt, tt, tt, tt, ff, tt, tt, ff, ff, ff, ff] ?_
          refine pq_ (i := 12) (N := some 20) HT_ #[tt, tt, tt, tt, tt, tt, tt, tt, tt, ff, tt, tt, tt, ff, ff, ff] ?_
          refine take_ (i := 9) (N := some 17) (v := ?_) (a' := ?_) #[tt, tt, tt, tt, tt, tt, tt, tt, tt, tt, tt, tt, tt, ff, ff, ff] rfl rfl (take_ofW HT_.out HW_.out (by kernel_rfl)) (fun _ _ _ h => h) (Or.inl ⟨by rfl, ?_⟩) hHeld ?_ ?_
          rotate_left
          ·rintro w' ⟨s0, s1, s2, s3, s4, s5, s6, s7⟩
           go_simp
           with_reducible rfl
          rotate_left
          ·simp only [Act.put, List.setIfInBounds_toArray, List.set_cons_zero, List.set_cons_succ, i64_w, i32_w]
           rfl
          refine take_ (i := 13) (N := some 21) (v := ?_) (a' := ?_) #[tt, tt, tt, tt, tt, tt, tt, tt, tt, tt, tt, tt, tt, tt, ff, ff] rfl rfl (take_ofW HT_.out HW_.out (by kernel_rfl)) (fun _ _ _ h => h) (Or.inl ⟨by rfl, ?_⟩) hHeld ?_ ?_
          rotate_left
          ·rintro w' ⟨s0, s1, s2, s3, s4, s5, s6, s7⟩
           go_simp
           with_reducible rfl
          rotate_left
          ·simp only [Act.put, List.setIfInBounds_toArray, List.set_cons_zero, List.set_cons_succ, i64_w, i32_w]
           rfl
          refine pq_ (i := 14) (N := some 22) HT_ #[tt, tt, tt, tt, tt, tt, tt, tt, tt, tt, tt, tt, tt, tt, tt, ff] ?_
          refine pq_ (i := 15) (N := some 23) HT_ #[tt, tt, tt, tt, tt, tt, tt, tt, tt, tt, tt, tt, tt, tt, tt, tt] ?_
          refine done_ (done_of HT_.out (by kernel_rfl)) ?_
          try go_wp2
          go_roundg k2
          case measure => have := HK1.out; have := HK2.out; omega
          case rel => exact ⟨(wrap64 (x4_2 + 1)), (by first | rfl | (simp; done) | (simp [*]; done)), H', ⟨by have := HK1.out; have := HK2.out; omega⟩, ⟨by (with_reducible repeat (first | apply Kd.V_alloc | apply Kd.V_drewN | apply Kd.V_drew)); exact HO_0.out⟩, ⟨by (with_reducible repeat (first | apply Kd.N_alloc | apply Kd.N_drewN | apply Kd.N_drew)); exact HO_3.out⟩, ⟨by repeat (first | (with_reducible first | exact HB.out | apply below_alloc | apply pw_below_drewN | apply below_drew1) | exact HB.out)⟩⟩
         ·rw [if_neg c7] at H
          have c7b0 : (((rd_T36 x0_1 x4_2).f0).toList == ((rd_T36 x0_1 0).f0).toList) = false := beq_eq_false_iff_ne.mpr c7
          have c7b1 : (((rd_T36 x0_1 x4_2).f0).toList != ((rd_T36 x0_1 0).f0).toList) = true := bne_iff_ne.mpr c7
          have c9b0 := eq_true (of_decide_eq_true (by first | (with_reducible assumption) | assumption) : 0 ≤ x4_2)
          by_cases c10 : x4_2 ≤ (x0_1.length : Int)
          ·rw [if_pos c10] at H
           have c10b0 := eq_true c10
           have c10b1 : decide (x4_2 ≤ (x0_1.length : Int)) = true := decide_eq_true c10
           clear c10
           obtain ⟨y178, hy178⟩ : ∃ y_ : List (S36), y_ = (x0_1.take (x4_2 : Int).toNat) := ⟨_, rfl⟩
           replace H : (if x3_1.length < 5864062014805 then (merge_groups.l0 k2 (x0_1.drop (x4_2 : Int).toNat) (x3_1 ++ [y178])) else (none)) = some r := by first | (rw [hy178]; with_reducible exact H) | (have H2_ := (Option.bind_some _ _).symm.trans H; rw [hy178]; with_reducible exact H2_) | (have H2_ := (Option.bind_some _ _).symm.trans H; with_reducible exact H2_) | with_reducible exact H | (rw [hy178]; exact H) | exact H
           have Ny178 := Aside0.mk hy178
           clear hy178
           by_cases c11 : x3_1.length < 5864062014805
           ·rw [if_pos c11] at H
            have LMc11 := Aside0.mk c11
            clear c11
            obtain ⟨y183, hy183⟩ : ∃ y_ : List (List (S36)), y_ = (x3_1 ++ [y178]) := ⟨_, rfl⟩
            replace H : (merge_groups.l0 k2 (x0_1.drop (x4_2 : Int).toNat) y183) = some r := by first | (rw [hy183]; with_reducible exact H) | (have H2_ := (Option.bind_some _ _).symm.trans H; rw [hy183]; with_reducible exact H2_) | (have H2_ := (Option.bind_some _ _).symm.trans H; with_reducible exact H2_) | with_reducible exact H | (rw [hy183]; exact H) | exact H
            have Ny183 := Aside0.mk hy183
            clear hy183
            have c12b0 := eq_true (of_decide_eq_true (by first | (with_reducible assumption) | assumption) : 0 ≤ x4_2)
            have c13b0 := eq_true (of_decide_eq_true (by first | (with_reducible assumption) | assumption) : x4_2 ≤ (x0_1.length : Int))
            obtain ⟨y186, hy186⟩ : ∃ y_ : List (S36), y_ = (x0_1.drop (x4_2 : Int).toNat) := ⟨_, rfl⟩
            replace H : (merge_groups.l0 k2 y186 y183) = some r := by first | (rw [hy186]; with_reducible exact H) | (have H2_ := (Option.bind_some _ _).symm.trans H; rw [hy186]; with_reducible exact H2_) | (have H2_ := (Option.bind_some _ _).symm.trans H; with_reducible exact H2_) | with_reducible exact H | (rw [hy186]; exact H) | exact H
            have Ny186 := Aside0.mk hy186
            clear hy186
            have H' := Aside0.mk H
            clear H
            try go_wp2
            have n0_ := Aside0.mk (Kd.V_drew HO_0.out)
            have n1_ := Aside0.mk (Kd.N_drew HO_3.out)
            have n2_ := Aside0.mk (below_drew1 HB.out)
            clear HO_0
            clear HO_3
            clear HB
            have HO_0 := n0_
            have HO_3 := n1_
            have HB := n2_
            clear n0_ n1_ n2_
            have p176 : 0 ≤ (x4_2 : Int) := of_decide_eq_true (by first | (with_reducible assumption) | assumption)
            have q176 : x4_2 < (x0_1.length : Int) := of_decide_eq_true (by first | (with_reducible assumption) | assumption)
            obtain ⟨ad176, e176, hx176_0, hx176_1, hx176_2, hx176_3⟩ := at_T36 (Kd.V_reads' HO_0.out).2.2 x4_2 p176 q176
            cases e176
            replace p176 := eq_true p176
            replace q176 := eq_true q176
            have p177 : 0 ≤ (0 : Int) := (by omega)
            have q177 : 0 < (x0_1.length : Int) := of_decide_eq_true (by first | (with_reducible assumption) | assumption)
            obtain ⟨ad177, e177, hx177_0, hx177_1, hx177_2, hx177_3⟩ := at_T36 (Kd.V_reads' HO_0.out).2.2 0 p177 q177
            obtain rfl : ad176 = ad177 := (by injection e177)
            have qi177 : (0 < x0_1.length) = True := eq_true (by omega)
            (try rw [show ((0 : Int)).toNat = 0 from rfl] at hx177_0)
            (try rw [show 0 * 4 = 0 from rfl] at hx177_0)
            (try rw [Addr.add_zero'] at hx177_0)
            (try rw [show ((0 : Int)).toNat = 0 from rfl] at hx177_1)
            (try rw [show 0 * 4 = 0 from rfl] at hx177_1)
            (try rw [Addr.add_zero'] at hx177_1)
            (try rw [show ((0 : Int)).toNat = 0 from rfl] at hx177_2)
            (try rw [show 0 * 4 = 0 from rfl] at hx177_2)
            (try rw [Addr.add_zero'] at hx177_2)
            (try rw [show ((0 : Int)).toNat = 0 from rfl] at hx177_3)
            (try rw [show 0 * 4 = 0 from rfl] at hx177_3)
            (try rw [Addr.add_zero'] at hx177_3)
            replace p177 := eq_true p177
            replace q177 := eq_true q177
            refine start_ (n := 16) (S := fun w' => w'.cell? (ad176.add ((x4_2).toNat * 4)) = some (.string ((rd_T36 x0_1 x4_2).f0)) ∧ w'.cell? ⟨(ad176.add ((x4_2).toNat * 4)).block, (ad176.add ((x4_2).toNat * 4)).off + 1, none⟩ = some (.int .i64 ((rd_T36 x0_1 x4_2).f1)) ∧ w'.cell? ⟨(ad176.add ((x4_2).toNat * 4)).block, (ad176.add ((x4_2).toNat * 4)).off + 2, none⟩ = some (.bool ((rd_T36 x0_1 x4_2).f2)) ∧ w'.cell? ⟨(ad176.add ((x4_2).toNat * 4)).block, (ad176.add ((x4_2).toNat * 4)).off + 3, none⟩ = some (.string ((rd_T36 x0_1 x4_2).f3)) ∧ w'.cell? ad176 = some (.string ((rd_T36 x0_1 0).f0)) ∧ w'.cell? ⟨ad176.block, ad176.off + 1, none⟩ = some (.int .i64 ((rd_T36 x0_1 0).f1)) ∧ w'.cell? ⟨ad176.block, ad176.off + 2, none⟩ = some (.bool ((rd_T36 x0_1 0).f2)) ∧ w'.cell? ⟨ad176.block, ad176.off + 3, none⟩ = some (.string ((rd_T36 x0_1 0).f3))) (ds := []) #[ff, ff, ff, ff, ff, ff, ff, ff, ff, ff, ff, ff, ff, ff, ff, ff] (by kernel_rfl) rfl rfl ⟨hx176_0, hx176_1, hx176_2, hx176_3, hx177_0, hx177_1, hx177_2, hx177_3⟩ (fun hHeld => ?_); refine with_tabW merge_groups.tab4 merge_groups.bits4 (fun HT_ HW_ => ?_)
            generalize wr.drew = w14 at HO_0 HO_3 HB hx176_0 hx176_1 hx176_2 hx176_3 hx177_0 hx177_1 hx177_2 hx177_3 hHeld ⊢
            refine pq_ (i := 0) (N := some 8) HT_ #[tt, ff, ff, ff, ff, ff, ff, ff, ff, ff, ff, ff, ff, ff, ff, ff] ?_
            refine pq_ (i := 1) (N := some 9) HT_ #[tt, tt, ff, ff, ff, ff, ff, ff, ff, ff, ff, ff, ff, ff, ff, ff] ?_
            refine pq_ (i := 2) (N := some 10) HT_ #[tt, tt, tt, ff, ff, ff, ff, ff, ff, ff, ff, ff, ff, ff, ff, ff] ?_
            refine pq_ (i := 3) (N := some 11) HT_ #[tt, tt, tt, tt, ff, ff, ff, ff, ff, ff, ff, ff, ff, ff, ff, ff] ?_
            refine pq_ (i := 4) (N := some 12) HT_ #[tt, tt, tt, tt, tt, ff, ff, ff, ff, ff, ff, ff, ff, ff, ff, ff] ?_
            refine pq_ (i := 5) (N := some 13) HT_ #[tt, tt, tt, tt, tt, tt, ff, ff, ff, ff, ff, ff, ff, ff, ff, ff] ?_
            refine pq_ (i := 6) (N := some 14) HT_ #[tt, tt, tt, tt, tt, tt, tt, ff, ff, ff, ff, ff, ff, ff, ff, ff] ?_
            refine pq_ (i := 7) (N := some 15) HT_ #[tt, tt, tt, tt, tt, tt, tt, tt, ff, ff, ff, ff, ff, ff, ff, ff] ?_
            refine pq_ (i := 8) (N := some 16) HT_ #[tt, tt, tt, tt, tt, tt, tt, tt, tt, ff, ff, ff, ff, ff, ff, ff] ?_
            refine pq_ (i := 10) (N := some 18) HT_ #[tt, tt, tt, tt, tt, tt, tt, tt, tt, ff, tt, ff, ff, ff, ff, ff] ?_
            refine pq_ (i := 11) (N := some 19) HT_ #[tt, tt, tt, tt, tt, tt, tt, tt, tt, ff, tt, tt, ff, ff, ff, ff] ?_
            refine pq_ (i := 12) (N := some 20) HT_ #[tt, tt, tt, tt, tt, tt, tt, tt, tt, ff, tt, tt, tt, ff, ff, ff] ?_
            refine take_ (i := 9) (N := some 17) (v := ?_) (a' := ?_) #[tt, tt, tt, tt, tt, tt, tt, tt, tt, tt, tt, tt, tt, ff, ff, ff] rfl rfl (take_ofW HT_.out HW_.out (by kernel_rfl)) (fun _ _ _ h => h) (Or.inl ⟨by rfl, ?_⟩) hHeld ?_ ?_
            rotate_left
            ·rintro w' ⟨s0, s1, s2, s3, s4, s5, s6, s7⟩
             go_simp
             with_reducible rfl
            rotate_left
            ·simp only [Act.put, List.setIfInBounds_toArray, List.set_cons_zero, List.set_cons_succ, i64_w, i32_w]
             rfl
            refine take_ (i := 13) (N := some 21) (v := ?_) (a' := ?_) #[tt, tt, tt, tt, tt, tt, tt, tt, tt, tt, tt, tt, tt, tt, ff, ff] rfl rfl (take_ofW HT_.out HW_.out (by kernel_rfl)) (fun _ _ _ h => h) (Or.inl ⟨by rfl, ?_⟩) hHeld ?_ ?_
            rotate_left
            ·rintro w' ⟨s0, s1, s2, s3, s4, s5, s6, s7⟩
             go_simp
             with_reducible rfl
            rotate_left
            ·simp only [Act.put, List.setIfInBounds_toArray, List.set_cons_zero, List.set_cons_succ, i64_w, i32_w]
             rfl
            refine pq_ (i := 14) (N := some 22) HT_ #[tt, tt, tt, tt, tt, tt, tt, tt, tt, tt, tt, tt, tt, tt, tt, ff] ?_
            refine pq_ (i := 15) (N := some 23) HT_ #[tt, tt, tt, tt, tt, tt, tt, tt, tt, tt, tt, tt, tt, tt, tt, tt] ?_
            refine done_ (done_of HT_.out (by kernel_rfl)) ?_
            try go_wp2
            have n0_ := Aside0.mk (Kd.V_drew HO_0.out)
            have n1_ := Aside0.mk (Kd.N_drew HO_3.out)
            have n2_ := Aside0.mk (below_drew1 HB.out)
            clear HO_0
            clear HO_3
            clear HB
            have HO_0 := n0_
            have HO_3 := n1_
            have HB := n2_
            clear n0_ n1_ n2_
            have q16 : (x4_2 : Int) ≤ ((x0_1.length : Int) : Int) := of_decide_eq_true (by first | (with_reducible assumption) | assumption)
            obtain ⟨i016, hi016, _, hsz16, _⟩ := info_parts info36
            have hroom16 : x0_1.length ≤ co3 := (Kd.V_reads' HO_0.out).2.1
            have hC16 : Kd.F k36 _ _ (some ad176) x0_1.length x0_1 := (Kd.V_at (base := w.heap.size) HO_0.out).2.2
            have hcut16 := cut_to (P := Try.prog) 27 36 .i64 Try.underlying27 hi016 (some ad176) x0_1.length co3 x4_2 (of_decide_eq_true (by first | (with_reducible assumption) | assumption)) q16 hroom16
            have hr16 := Kd.F_take (m := (x4_2 : Int).toNat) hC16 (by omega)
            have hy16 : y178.length = (x4_2 : Int).toNat := (by rw [Ny178.out, List.length_take]; omega)
            rw [← Ny178.out] at hr16
            rw [← hy16] at hcut16
            have HO182 := Aside0.mk (show Kd.V k36 36 _ w.heap.size _ (.slice (some ad176) y178.length co3) y178 from Kd.V_mk (by omega) hr16)
            have HC182 := Aside0.mk (show y178.length ≤ co3 from by omega)
            clear hr16 hC16 hroom16 hi016 hsz16
            have KY16 := Aside0.mk hy16
            clear hy16
            replace q16 := eq_true q16
            have q17 : (x4_2 : Int) ≤ ((x0_1.length : Int) : Int) := of_decide_eq_true (by first | (with_reducible assumption) | assumption)
            obtain ⟨i017, hi017, _, hsz17, _⟩ := info_parts info36
            have hroom17 : x0_1.length ≤ co3 := (Kd.V_reads' HO_0.out).2.1
            have hC17 : Kd.F k36 _ _ (some ad176) x0_1.length x0_1 := (Kd.V_at (base := w.heap.size) HO_0.out).2.2
            have q017 : (0 : Int) ≤ (x4_2 : Int) := of_decide_eq_true (by first | (with_reducible assumption) | assumption)
            have hcut17 := cut_from (P := Try.prog) 27 36 .i64 Try.underlying27 hi017 4 hsz17 (some ad176) x0_1.length co3 x4_2 q017 q17
            have hr17 := Kd.F_cut (m := (x4_2 : Int).toNat) (c := co3) hC17 (by omega) hroom17
            obtain ⟨A17, hA17⟩ : ∃ A1, A1 = (if co3 = (x4_2 : Int).toNat then (some ad176) else ((some ad176) : Option Addr).map (·.add ((x4_2 : Int).toNat * 4))) := ⟨_, rfl⟩
            obtain ⟨c17, hc17⟩ : ∃ c1, c1 = co3 - (x4_2 : Int).toNat := ⟨_, rfl⟩
            have hy17 : y186.length = x0_1.length - (x4_2 : Int).toNat := (by rw [Ny186.out, List.length_drop] <;> omega)
            rw [show (x0_1).drop (x4_2 : Int).toNat = y186 from Ny186.out.symm] at hr17
            replace hr17 : Kd.F k36 _ _ A17 y186.length y186 := (by rw [hA17]; exact hr17)
            rw [← hy17, ← hA17, ← hc17] at hcut17
            have HO190 := Aside0.mk (show Kd.V k36 36 _ w.heap.size _ (.slice A17 y186.length c17) y186 from Kd.V_mk (by rw [hy17, hc17]; exact Nat.sub_le_sub_right hroom17 _) hr17)
            have HC190 := Aside0.mk (show y186.length ≤ c17 from by rw [hy17, hc17]; exact Nat.sub_le_sub_right hroom17 _)
            clear hr17 hC17 hroom17 hi017 hsz17 hc17
            have KY17 := Aside0.mk hy17
            have KA17 := Aside0.mk hA17
            clear hy17 hA17
            replace q17 := eq_true q17
            refine start_ (n := 11) (S := fun w' => True) (ds := []) #[ff, ff, ff, ff, ff, ff, ff, ff, ff, ff, ff] (by kernel_rfl) rfl rfl trivial (fun hHeld => ?_); refine with_tabW merge_groups.tab6 merge_groups.bits6 (fun HT_ HW_ => ?_)
            generalize w14.drew = w15 at HO_0 HO_3 HB HO182 HO190 hHeld ⊢
            refine pq_ (i := 0) (N := some 26) HT_ #[tt, ff, ff, ff, ff, ff, ff, ff, ff, ff, ff] ?_
            refine pq_ (i := 1) (N := some 27) HT_ #[tt, tt, ff, ff, ff, ff, ff, ff, ff, ff, ff] ?_
            refine pq_ (i := 2) (N := some 28) HT_ #[tt, tt, tt, ff, ff, ff, ff, ff, ff, ff, ff] ?_
            refine pq_ (i := 3) (N := some 29) HT_ #[tt, tt, tt, tt, ff, ff, ff, ff, ff, ff, ff] ?_
            refine pq_ (i := 6) (N := some 32) HT_ #[tt, tt, tt, tt, ff, ff, tt, ff, ff, ff, ff] ?_
            refine pq_ (i := 7) (N := some 33) HT_ #[tt, tt, tt, tt, ff, ff, tt, tt, ff, ff, ff] ?_
            refine pq_ (i := 8) (N := some 34) HT_ #[tt, tt, tt, tt, ff, ff, tt, tt, tt, ff, ff] ?_
            refine one_ (i := 4) (N := some 30) #[tt, tt, tt, tt, tt, ff, tt, tt, tt, ff, ff] rfl rfl (one_of HT_.out (by kernel_rfl)) (by decide) (fun K hK => ?_)
            refine value_ (w1 := ?_) (v := ?_) (by rfl) rfl ?_ ?_
            rotate_left 2
            ·go_simp
             constructor
             ·rfl
             ·rfl
            refine hK.out _ _ trivial (fun hHeld => ?_)
            clear hK K
            refine norm_ (a' := ?_) ?_ ?_
            rotate_left
            ·show Act.put _ (some 30) _ = _
             simp only [Act.put, List.setIfInBounds_toArray, List.set_cons_zero, List.set_cons_succ, i64_w, i32_w]
             rfl
            refine one_ (i := 5) (N := some 31) #[tt, tt, tt, tt, tt, tt, tt, tt, tt, ff, ff] rfl rfl (one_of HT_.out (by kernel_rfl)) (by decide) (fun K hK => ?_)
            refine Kd.N_append_step (Kd.slice 36 k36) (w0 := w) w.heap.size (by rfl) (.tmp 26) (.tmp 30) 22 27 (.slice none 0 0) 24 rfl Try.underlying22 info27 rfl (by decide) (by omega) u3 x3_1 y178 [.slice (some ad176) y178.length co3] (fun k_ => (P0_ k_ ∨ w.heap.size ≤ k_)) (fun k_ => ((fun k_ => (P0_ k_ ∨ w.heap.size ≤ k_))) k_ ∧ some k_ ≠ (u3 : Value).ownBlock) rfl rfl ?aP (fun _ hk => hk) ?aF ?aO ?aB ?aS ?aL ?_
            (case aP => exact (Kd.FK_slice_mk (Kd.V_reads' (Kd.V_mono (ok' := (fun k_ => ((fun k_ => (P0_ k_ ∨ w.heap.size ≤ k_))) k_ ∧ some k_ ≠ (u3 : Value).ownBlock)) (HO182.out) (fun k_ hk => ⟨hk.1, hk.2⟩))).2.1 (Kd.V_F (Kd.V_mono (ok' := (fun k_ => ((fun k_ => (P0_ k_ ∨ w.heap.size ≤ k_))) k_ ∧ some k_ ≠ (u3 : Value).ownBlock)) (HO182.out) (fun k_ hk => ⟨hk.1, hk.2⟩)))))
            (case aB => exact HB.out)
            (case aF => exact (fun k_ hk => (.inr (Nat.le_trans (below_size HB.out) hk))))
            (case aO => exact HO_3.out)
            (case aS => exact (below_size HB.out))
            (case aL => have := LMc11.out; omega)
            intro v184 w18 ho hb hg hat
            rw [← Ny183.out] at ho
            have n0_ := Aside0.mk (Kd.V_afterv (ok := (fun k_ => (P0_ k_ ∨ w.heap.size ≤ k_))) HO_0.out hg hat)
            have n1_ := Aside0.mk (Kd.V_afterv (ok := (fun k_ => (P0_ k_ ∨ w.heap.size ≤ k_))) HO182.out hg hat)
            have n2_ := Aside0.mk (Kd.V_afterv (ok := (fun k_ => (P0_ k_ ∨ w.heap.size ≤ k_))) HO190.out hg hat)
            have n3_ := Aside0.mk (hb)
            have n4_ := Aside0.mk (ho)
            clear HO_0
            clear HO182
            clear HO190
            clear HB
            clear HO_3
            have HO_0 := n0_
            have HO182 := n1_
            have HO190 := n2_
            have HB := n3_
            have HO185 := n4_
            clear n0_ n1_ n2_ n3_ n4_
            clear ho hb hg hat
            refine hK.out _ _ trivial (fun hHeld => ?_)
            clear hK K
            refine norm_ (a' := ?_) ?_ ?_
            rotate_left
            ·show Act.put _ (some 31) _ = _
             simp only [Act.put, List.setIfInBounds_toArray, List.set_cons_zero, List.set_cons_succ, i64_w, i32_w]
             rfl
            refine pq_ (i := 9) (N := some 3) HT_ #[tt, tt, tt, tt, tt, tt, tt, tt, tt, tt, ff] ?_
            refine pq_ (i := 10) (N := some 0) HT_ #[tt, tt, tt, tt, tt, tt, tt, tt, tt, tt, tt] ?_
            refine done_ (done_of HT_.out (by kernel_rfl)) ?_
            try go_wp2
            go_roundg k2
            case measure => have := HK1.out; have := HK2.out; omega
            case rel => exact ⟨(y186), (y183), H', ⟨by have := HK1.out; have := HK2.out; omega⟩, ⟨by (with_reducible repeat (first | apply Kd.V_alloc | apply Kd.V_drewN | apply Kd.V_drew)); exact HO190.out⟩, ⟨by (with_reducible repeat (first | apply Kd.N_alloc | apply Kd.N_drewN | apply Kd.N_drew)); exact HO185.out⟩, ⟨by repeat (first | (with_reducible first | exact HB.out | apply below_alloc | apply pw_below_drewN | apply below_drew1) | exact HB.out)⟩⟩
           ·rw [if_neg c11] at H
            exact absurd H (by simp)
          ·rw [if_neg c10] at H
           exact absurd H (by simp)
        ·rw [if_neg c6] at H
         exact absurd H (by simp)
       ·rw [if_neg c5] at H
        exact absurd H (by simp)
      ·rw [if_neg c4] at H
       have c4b0 : decide (x4_2 < (x0_1.length : Int)) = false := decide_eq_false c4
       clear c4
       by_cases c19 : 0 ≤ x4_2
       ·rw [if_pos c19] at H
        have c19b0 := eq_true c19
        have c19b1 : decide (0 ≤ x4_2) = true := decide_eq_true c19
        clear c19
        by_cases c20 : x4_2 ≤ (x0_1.length : Int)
        ·rw [if_pos c20] at H
         have c20b0 := eq_true c20
         have c20b1 : decide (x4_2 ≤ (x0_1.length : Int)) = true := decide_eq_true c20
         clear c20
         obtain ⟨y191, hy191⟩ : ∃ y_ : List (S36), y_ = (x0_1.take (x4_2 : Int).toNat) := ⟨_, rfl⟩
         replace H : (if x3_1.length < 5864062014805 then (merge_groups.l0 k2 (x0_1.drop (x4_2 : Int).toNat) (x3_1 ++ [y191])) else (none)) = some r := by first | (rw [hy191]; with_reducible exact H) | (have H2_ := (Option.bind_some _ _).symm.trans H; rw [hy191]; with_reducible exact H2_) | (have H2_ := (Option.bind_some _ _).symm.trans H; with_reducible exact H2_) | with_reducible exact H | (rw [hy191]; exact H) | exact H
         have Ny191 := Aside0.mk hy191
         clear hy191
         by_cases c21 : x3_1.length < 5864062014805
         ·rw [if_pos c21] at H
          have LMc21 := Aside0.mk c21
          clear c21
          obtain ⟨y196, hy196⟩ : ∃ y_ : List (List (S36)), y_ = (x3_1 ++ [y191]) := ⟨_, rfl⟩
          replace H : (merge_groups.l0 k2 (x0_1.drop (x4_2 : Int).toNat) y196) = some r := by first | (rw [hy196]; with_reducible exact H) | (have H2_ := (Option.bind_some _ _).symm.trans H; rw [hy196]; with_reducible exact H2_) | (have H2_ := (Option.bind_some _ _).symm.trans H; with_reducible exact H2_) | with_reducible exact H | (rw [hy196]; exact H) | exact H
          have Ny196 := Aside0.mk hy196
          clear hy196
          have c22b0 := eq_true (of_decide_eq_true (by first | (with_reducible assumption) | assumption) : 0 ≤ x4_2)
          have c23b0 := eq_true (of_decide_eq_true (by first | (with_reducible assumption) | assumption) : x4_2 ≤ (x0_1.length : Int))
          obtain ⟨y199, hy199⟩ : ∃ y_ : List (S36), y_ = (x0_1.drop (x4_2 : Int).toNat) := ⟨_, rfl⟩
          replace H : (merge_groups.l0 k2 y199 y196) = some r := by first | (rw [hy199]; with_reducible exact H) | (have H2_ := (Option.bind_some _ _).symm.trans H; rw [hy199]; with_reducible exact H2_) | (have H2_ := (Option.bind_some _ _).symm.trans H; with_reducible exact H2_) | with_reducible exact H | (rw [hy199]; exact H) | exact H
          have Ny199 := Aside0.mk hy199
          clear hy199
          have H' := Aside0.mk H
          clear H
          try go_wp2
          have n0_ := Aside0.mk (Kd.V_drew HO_0.out)
          have n1_ := Aside0.mk (Kd.N_drew HO_3.out)
          have n2_ := Aside0.mk (below_drew1 HB.out)
          clear HO_0
          clear HO_3
          clear HB
          have HO_0 := n0_
          have HO_3 := n1_
          have HB := n2_
          clear n0_ n1_ n2_
          refine start_ (n := 16) (S := fun w' => True) (ds := []) #[ff, ff, ff, ff, ff, ff, ff, ff, ff, ff, ff, ff, ff, ff, ff, ff] (by kernel_rfl) rfl rfl trivial (fun hHeld => ?_); refine with_tabW merge_groups.tab4 merge_groups.bits4 (fun HT_ HW_ => ?_)
          generalize wr.drew = w24 at HO_0 HO_3 HB hHeld ⊢
          refine pq_ (i := 0) (N := some 8) HT_ #[tt, ff, ff, ff, ff, ff, ff, ff, ff, ff, ff, ff, ff, ff, ff, ff] ?_
          refine pq_ (i := 1) (N := some 9) HT_ #[tt, tt, ff, ff, ff, ff, ff, ff, ff, ff, ff, ff, ff, ff, ff, ff] ?_
          refine pq_ (i := 2) (N := some 10) HT_ #[tt, tt, tt, ff, ff, ff, ff, ff, ff, ff, ff, ff, ff, ff, ff, ff] ?_
          refine pq_ (i := 3) (N := some 11) HT_ #[tt, tt, tt, tt, ff, ff, ff, ff, ff, ff, ff, ff, ff, ff, ff, ff] ?_
          refine pq_ (i := 4) (N := some 12) HT_ #[tt, tt, tt, tt, tt, ff, ff, ff, ff, ff, ff, ff, ff, ff, ff, ff] ?_
          refine pu_ (i := 5) (N := some 13) HT_ #[tt, tt, tt, tt, tt, tt, ff, ff, ff, ff, ff, ff, ff, ff, ff, ff] ?_
          refine pu_ (i := 6) (N := some 14) HT_ #[tt, tt, tt, tt, tt, tt, tt, ff, ff, ff, ff, ff, ff, ff, ff, ff] ?_
          refine pu_ (i := 7) (N := some 15) HT_ #[tt, tt, tt, tt, tt, tt, tt, tt, ff, ff, ff, ff, ff, ff, ff, ff] ?_
          refine pu_ (i := 8) (N := some 16) HT_ #[tt, tt, tt, tt, tt, tt, tt, tt, tt, ff, ff, ff, ff, ff, ff, ff] ?_
          refine pu_ (i := 9) (N := some 17) HT_ #[tt, tt, tt, tt, tt, tt, tt, tt, tt, tt, ff, ff, ff, ff, ff, ff] ?_
          refine pu_ (i := 10) (N := some 18) HT_ #[tt, tt, tt, tt, tt, tt, tt, tt, tt, tt, tt, ff, ff, ff, ff, ff] ?_
          refine pu_ (i := 11) (N := some 19) HT_ #[tt, tt, tt, tt, tt, tt, tt, tt, tt, tt, tt, tt, ff, ff, ff, ff] ?_
          refine pu_ (i := 12) (N := some 20) HT_ #[tt, tt, tt, tt, tt, tt, tt, tt, tt, tt, tt, tt, tt, ff, ff, ff] ?_
          refine pu_ (i := 13) (N := some 21) HT_ #[tt, tt, tt, tt, tt, tt, tt, tt, tt, tt, tt, tt, tt, tt, ff, ff] ?_
          refine pu_ (i := 14) (N := some 22) HT_ #[tt, tt, tt, tt, tt, tt, tt, tt, tt, tt, tt, tt, tt, tt, tt, ff] ?_
          refine pq_ (i := 15) (N := some 23) HT_ #[tt, tt, tt, tt, tt, tt, tt, tt, tt, tt, tt, tt, tt, tt, tt, tt] ?_
          refine done_ (done_of HT_.out (by kernel_rfl)) ?_
          try go_wp2
          have n0_ := Aside0.mk (Kd.V_drew HO_0.out)
          have n1_ := Aside0.mk (Kd.N_drew HO_3.out)
          have n2_ := Aside0.mk (below_drew1 HB.out)
          clear HO_0
          clear HO_3
          clear HB
          have HO_0 := n0_
          have HO_3 := n1_
          have HB := n2_
          clear n0_ n1_ n2_
          have q26 : (x4_2 : Int) ≤ ((x0_1.length : Int) : Int) := of_decide_eq_true (by first | (with_reducible assumption) | assumption)
          obtain ⟨i026, hi026, _, hsz26, _⟩ := info_parts info36
          have hroom26 : x0_1.length ≤ co3 := (Kd.V_reads' HO_0.out).2.1
          have hC26 : Kd.F k36 _ _ Ao3 x0_1.length x0_1 := (Kd.V_at (base := w.heap.size) HO_0.out).2.2
          have hcut26 := cut_to (P := Try.prog) 27 36 .i64 Try.underlying27 hi026 Ao3 x0_1.length co3 x4_2 (of_decide_eq_true (by first | (with_reducible assumption) | assumption)) q26 hroom26
          have hr26 := Kd.F_take (m := (x4_2 : Int).toNat) hC26 (by omega)
          have hy26 : y191.length = (x4_2 : Int).toNat := (by rw [Ny191.out, List.length_take]; omega)
          rw [← Ny191.out] at hr26
          rw [← hy26] at hcut26
          have HO195 := Aside0.mk (show Kd.V k36 36 _ w.heap.size _ (.slice Ao3 y191.length co3) y191 from Kd.V_mk (by omega) hr26)
          have HC195 := Aside0.mk (show y191.length ≤ co3 from by omega)
          clear hr26 hC26 hroom26 hi026 hsz26
          have KY26 := Aside0.mk hy26
          clear hy26
          replace q26 := eq_true q26
          have q27 : (x4_2 : Int) ≤ ((x0_1.length : Int) : Int) := of_decide_eq_true (by first | (with_reducible assumption) | assumption)
          obtain ⟨i027, hi027, _, hsz27, _⟩ := info_parts info36
          have hroom27 : x0_1.length ≤ co3 := (Kd.V_reads' HO_0.out).2.1
          have hC27 : Kd.F k36 _ _ Ao3 x0_1.length x0_1 := (Kd.V_at (base := w.heap.size) HO_0.out).2.2
          have q027 : (0 : Int) ≤ (x4_2 : Int) := of_decide_eq_true (by first | (with_reducible assumption) | assumption)
          have hcut27 := cut_from (P := Try.prog) 27 36 .i64 Try.underlying27 hi027 4 hsz27 Ao3 x0_1.length co3 x4_2 q027 q27
          have hr27 := Kd.F_cut (m := (x4_2 : Int).toNat) (c := co3) hC27 (by omega) hroom27
          obtain ⟨A27, hA27⟩ : ∃ A1, A1 = (if co3 = (x4_2 : Int).toNat then Ao3 else (Ao3 : Option Addr).map (·.add ((x4_2 : Int).toNat * 4))) := ⟨_, rfl⟩
          obtain ⟨c27, hc27⟩ : ∃ c1, c1 = co3 - (x4_2 : Int).toNat := ⟨_, rfl⟩
          have hy27 : y199.length = x0_1.length - (x4_2 : Int).toNat := (by rw [Ny199.out, List.length_drop] <;> omega)
          rw [show (x0_1).drop (x4_2 : Int).toNat = y199 from Ny199.out.symm] at hr27
          replace hr27 : Kd.F k36 _ _ A27 y199.length y199 := (by rw [hA27]; exact hr27)
          rw [← hy27, ← hA27, ← hc27] at hcut27
          have HO203 := Aside0.mk (show Kd.V k36 36 _ w.heap.size _ (.slice A27 y199.length c27) y199 from Kd.V_mk (by rw [hy27, hc27]; exact Nat.sub_le_sub_right hroom27 _) hr27)
          have HC203 := Aside0.mk (show y199.length ≤ c27 from by rw [hy27, hc27]; exact Nat.sub_le_sub_right hroom27 _)
          clear hr27 hC27 hroom27 hi027 hsz27 hc27
          have KY27 := Aside0.mk hy27
          have KA27 := Aside0.mk hA27
          clear hy27 hA27
          replace q27 := eq_true q27
          refine start_ (n := 11) (S := fun w' => True) (ds := []) #[ff, ff, ff, ff, ff, ff, ff, ff, ff, ff, ff] (by kernel_rfl) rfl rfl trivial (fun hHeld => ?_); refine with_tabW merge_groups.tab6 merge_groups.bits6 (fun HT_ HW_ => ?_)
          generalize w24.drew = w25 at HO_0 HO_3 HB HO195 HO203 hHeld ⊢
          refine pq_ (i := 0) (N := some 26) HT_ #[tt, ff, ff, ff, ff, ff, ff, ff, ff, ff, ff] ?_
          refine pq_ (i := 1) (N := some 27) HT_ #[tt, tt, ff, ff, ff, ff, ff, ff, ff, ff, ff] ?_
          refine pq_ (i := 2) (N := some 28) HT_ #[tt, tt, tt, ff, ff, ff, ff, ff, ff, ff, ff] ?_
          refine pq_ (i := 3) (N := some 29) HT_ #[tt, tt, tt, tt, ff, ff, ff, ff, ff, ff, ff] ?_
          refine pq_ (i := 6) (N := some 32) HT_ #[tt, tt, tt, tt, ff, ff, tt, ff, ff, ff, ff] ?_
          refine pq_ (i := 7) (N := some 33) HT_ #[tt, tt, tt, tt, ff, ff, tt, tt, ff, ff, ff] ?_
          refine pq_ (i := 8) (N := some 34) HT_ #[tt, tt, tt, tt, ff, ff, tt, tt, tt, ff, ff] ?_
          refine one_ (i := 4) (N := some 30) #[tt, tt, tt, tt, tt, ff, tt, tt, tt, ff, ff] rfl rfl (one_of HT_.out (by kernel_rfl)) (by decide) (fun K hK => ?_)
          refine value_ (w1 := ?_) (v := ?_) (by rfl) rfl ?_ ?_
          rotate_left 2
          ·go_simp
           constructor
           ·rfl
           ·rfl
          refine hK.out _ _ trivial (fun hHeld => ?_)
          clear hK K
          refine norm_ (a' := ?_) ?_ ?_
          rotate_left
          ·show Act.put _ (some 30) _ = _
           simp only [Act.put, List.setIfInBounds_toArray, List.set_cons_zero, List.set_cons_succ, i64_w, i32_w]
           rfl
          refine one_ (i := 5) (N := some 31) #[tt, tt, tt, tt, tt, tt, tt, tt, tt, ff, ff] rfl rfl (one_of HT_.out (by kernel_rfl)) (by decide) (fun K hK => ?_)
          refine Kd.N_append_step (Kd.slice 36 k36) (w0 := w) w.heap.size (by rfl) (.tmp 26) (.tmp 30) 22 27 (.slice none 0 0) 24 rfl Try.underlying22 info27 rfl (by decide) (by omega) u3 x3_1 y191 [.slice Ao3 y191.length co3] (fun k_ => (P0_ k_ ∨ w.heap.size ≤ k_)) (fun k_ => ((fun k_ => (P0_ k_ ∨ w.heap.size ≤ k_))) k_ ∧ some k_ ≠ (u3 : Value).ownBlock) rfl rfl ?aP (fun _ hk => hk) ?aF ?aO ?aB ?aS ?aL ?_
          (case aP => exact (Kd.FK_slice_mk (Kd.V_reads' (Kd.V_mono (ok' := (fun k_ => ((fun k_ => (P0_ k_ ∨ w.heap.size ≤ k_))) k_ ∧ some k_ ≠ (u3 : Value).ownBlock)) (HO195.out) (fun k_ hk => ⟨hk.1, hk.2⟩))).2.1 (Kd.V_F (Kd.V_mono (ok' := (fun k_ => ((fun k_ => (P0_ k_ ∨ w.heap.size ≤ k_))) k_ ∧ some k_ ≠ (u3 : Value).ownBlock)) (HO195.out) (fun k_ hk => ⟨hk.1, hk.2⟩)))))
          (case aB => exact HB.out)
          (case aF => exact (fun k_ hk => (.inr (Nat.le_trans (below_size HB.out) hk))))
          (case aO => exact HO_3.out)
          (case aS => exact (below_size HB.out))
          (case aL => have := LMc21.out; omega)
          intro v197 w28 ho hb hg hat
          rw [← Ny196.out] at ho
          have n0_ := Aside0.mk (Kd.V_afterv (ok := (fun k_ => (P0_ k_ ∨ w.heap.size ≤ k_))) HO_0.out hg hat)
          have n1_ := Aside0.mk (Kd.V_afterv (ok := (fun k_ => (P0_ k_ ∨ w.heap.size ≤ k_))) HO195.out hg hat)
          have n2_ := Aside0.mk (Kd.V_afterv (ok := (fun k_ => (P0_ k_ ∨ w.heap.size ≤ k_))) HO203.out hg hat)
          have n3_ := Aside0.mk (hb)
          have n4_ := Aside0.mk (ho)
          clear HO_0
          clear HO195
          clear HO203
          clear HB
          clear HO_3
          have HO_0 := n0_
          have HO195 := n1_
          have HO203 := n2_
          have HB := n3_
          have HO198 := n4_
          clear n0_ n1_ n2_ n3_ n4_
          clear ho hb hg hat
          refine hK.out _ _ trivial (fun hHeld => ?_)
          clear hK K
          refine norm_ (a' := ?_) ?_ ?_
          rotate_left
          ·show Act.put _ (some 31) _ = _
           simp only [Act.put, List.setIfInBounds_toArray, List.set_cons_zero, List.set_cons_succ, i64_w, i32_w]
           rfl
          refine pq_ (i := 9) (N := some 3) HT_ #[tt, tt, tt, tt, tt, tt, tt, tt, tt, tt, ff] ?_
          refine pq_ (i := 10) (N := some 0) HT_ #[tt, tt, tt, tt, tt, tt, tt, tt, tt, tt, tt] ?_
          refine done_ (done_of HT_.out (by kernel_rfl)) ?_
          try go_wp2
          go_roundg k2
          case measure => have := HK1.out; have := HK2.out; omega
          case rel => exact ⟨(y199), (y196), H', ⟨by have := HK1.out; have := HK2.out; omega⟩, ⟨by (with_reducible repeat (first | apply Kd.V_alloc | apply Kd.V_drewN | apply Kd.V_drew)); exact HO203.out⟩, ⟨by (with_reducible repeat (first | apply Kd.N_alloc | apply Kd.N_drewN | apply Kd.N_drew)); exact HO198.out⟩, ⟨by repeat (first | (with_reducible first | exact HB.out | apply below_alloc | apply pw_below_drewN | apply below_drew1) | exact HB.out)⟩⟩
         ·rw [if_neg c21] at H
          exact absurd H (by simp)
        ·rw [if_neg c20] at H
         exact absurd H (by simp)
       ·rw [if_neg c19] at H
        exact absurd H (by simp)
   ·rw [if_neg c2] at H
    have c2b0 : decide (0 < (x0_1.length : Int)) = false := decide_eq_false c2
    have c2b1 : decide (0 < x0_1.length) = false := decide_eq_false (by omega)
    clear c2
    obtain rfl := Option.some.inj H
    obtain ⟨Ao29, co29, eo29⟩ := Kd.V_slice HO_0.out
    subst eo29
    go_wp2
    go_ret
    exact ⟨_, by first | rfl | (simp [errW_none, errW_some] <;> rfl) | (simp [*, errW_none, errW_some] <;> rfl), by (with_reducible repeat (first | apply Kd.N_alloc | apply Kd.N_drewN | apply Kd.N_drew)); exact HO_3.out, by repeat (first | (with_reducible first | exact HB.out | apply below_alloc | apply pw_below_drewN | apply below_drew1) | exact HB.out)⟩

end Go.Proofs.Ythdoanbadhfhjaa.PAll

-- slimmed
