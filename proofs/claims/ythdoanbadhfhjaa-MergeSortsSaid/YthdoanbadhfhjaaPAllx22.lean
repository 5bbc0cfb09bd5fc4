-- Laid by ownprint.py (a program of the session, in wip/tools), out of the translation: Lean checks it.
import Derived.Test.YthdoanbadhfhjaaPAllx0
import Derived.Test.YthdoanbadhfhjaaPAllx4
import Derived.Test.YthdoanbadhfhjaaPAllx6
import Derived.Test.YthdoanbadhfhjaaPAllx7
import Derived.Test.YthdoanbadhfhjaaPAllx9
import Derived.Test.YthdoanbadhfhjaaPAllx10
import Derived.Test.YthdoanbadhfhjaaPAllx12
import Derived.Test.YthdoanbadhfhjaaPAllx13
import Derived.Test.YthdoanbadhfhjaaGv
import Derived.Test.YthdoanbadhfhjaaGw
namespace Go.Proofs.Ythdoanbadhfhjaa.PAll
open Go.RowKit Go.Proofs.YthdoanbadhfhjaaW.PrintWords Go.Proofs.YthdoanbadhfhjaaW.PrintLast Go.Proofs.YthdoanbadhfhjaaW.PrintMore
attribute [local go_sem] max2_int min2_int max_two min_two max_three min_three max_four min_four   -- for this text's walks alone
set_option linter.unusedVariables false
set_option linter.unusedSimpArgs false

/-! ### moultref12_Sorted: function 20 -/
def moultref12_Sorted.l0 : Nat → List (S36) → Int → Option (Bool)
 | 0, _, _ => none
 | k + 1, x0, x3 => if x3 < (x0.length : Int) then (if 0 ≤ (wrap64 (x3 - 1)) then (if (wrap64 (x3 - 1)) < (x0.length : Int) then (if 0 ≤ x3 then ((moultref10_Less.f k ((rd_T36 x0 (wrap64 (x3 - 1))).f0) ((rd_T36 x0 (wrap64 (x3 - 1))).f1) ((rd_T36 x0 (wrap64 (x3 - 1))).f2) ((rd_T36 x0 (wrap64 (x3 - 1))).f3) ((rd_T36 x0 x3).f0) ((rd_T36 x0 x3).f1) ((rd_T36 x0 x3).f2) ((rd_T36 x0 x3).f3)).bind fun t458 => (if t458 = true then (moultref12_Sorted.l0 k x0 (wrap64 (x3 + 1))) else (some false))) else (none)) else (none)) else (none)) else (some true)
def moultref12_Sorted.f (k : Nat) (l0 : List (S36)) : Option (Bool) := moultref12_Sorted.l0 k l0 1
theorem moultref12_Sorted.mono_l : ∀ k, (∀ y0 y1, LeO (moultref12_Sorted.l0 k y0 y1) (moultref12_Sorted.l0 (k + 1) y0 y1))
 | 0 => fun _ _ r h => by simp [moultref12_Sorted.l0] at h
 | k + 1 => by
  have ih0 := moultref12_Sorted.mono_l k
  ·intro y0 y1
   unfold moultref12_Sorted.l0
   repeat' first
   | (with_reducible exact ih0 _ _)
   | (with_reducible exact moultref10_Less.mono _ _ _ _ _ _ _ _ _)
   | (with_reducible exact LeO.refl _)
   | (with_reducible exact LeO.none _)
   | (with_reducible refine LeO.ite ?_ ?_)
   | (with_reducible refine LeO.bind ?_ (fun _ => ?_))
   | exact ih0 _ _
   | exact moultref10_Less.mono _ _ _ _ _ _ _ _ _
   | exact LeO.none _
   | refine LeO.ite ?_ ?_
   | refine LeO.bind ?_ (fun _ => ?_)
theorem moultref12_Sorted.mono : ∀ a0 k, LeO (moultref12_Sorted.f k a0) (moultref12_Sorted.f (k + 1) a0) := by
 intro a0 k
 have ih0 := moultref12_Sorted.mono_l k
 unfold moultref12_Sorted.f
 repeat' first
   | (with_reducible exact ih0 _ _)
   | (with_reducible exact moultref10_Less.mono _ _ _ _ _ _ _ _ _)
   | (with_reducible exact LeO.refl _)
   | (with_reducible exact LeO.none _)
   | (with_reducible refine LeO.ite ?_ ?_)
   | (with_reducible refine LeO.bind ?_ (fun _ => ?_))
   | exact ih0 _ _
   | exact moultref10_Less.mono _ _ _ _ _ _ _ _ _
   | exact LeO.none _
   | refine LeO.ite ?_ ?_
   | refine LeO.bind ?_ (fun _ => ?_)
def moultref12_Sorted.T4 : Bool × List (List Nat × List Nat) := (true, [([], []), ([], []), ([1], [1]), ([0, 2], [0, 2]), ([3], [3]), ([], []), ([], []), ([5, 6], [5, 6]), ([7], [7]), ([4, 8], [4, 8]), ([9], [9])])
def moultref12_Sorted.B4 : List Nat := [0, 0, 2, 7, 15, 0, 0, 96, 224, 511, 1023]
theorem moultref12_Sorted.tab4 : rtab .any (opsOf Try.f20 4) = moultref12_Sorted.T4 := by kernel_rfl
theorem moultref12_Sorted.bits4 : waitsOk moultref12_Sorted.T4.2 moultref12_Sorted.B4 = true := by kernel_rfl
set_option maxHeartbeats 8000000 in
set_option maxRecDepth 100000 in
theorem moultref12_Sorted.calls (k : Nat) (A0 : Option Addr) (c0 : Nat) (l0 : List (S36)) (r : Bool) (w : World) (hr0 : Kd.C k36 w A0 l0.length l0) (hc0 : l0.length ≤ c0) (h : moultref12_Sorted.f k l0 = some r) :
  Calls Try.prog 20 #[.slice A0 l0.length c0] w fun e w' => e = .returned (.bool r) ∧ Below w.heap.size w w' := by
 have hu36 := Try.underlying36
 have HR0 := Aside0.mk hr0
 have HC0 := Aside0.mk hc0
 clear hr0 hc0
 have HB := Aside0.mk (Below.refl w.heap.size w)
 have H : (moultref12_Sorted.l0 k l0 1) = some r := h
 clear h
 have H' := Aside0.mk H
 clear H
 go_enter Try.func20, Try.ntmps20
 go_wp2
 go_loopg [3] k (fun kq v3 w' => ∃ (x3_1 : Int), v3 = .int .i64 x3_1 ∧ Aside0 (moultref12_Sorted.l0 kq l0 x3_1 = some r) ∧ Aside0 (kq ≤ k) ∧ Aside0 (Below w.heap.size w w'))
 case atStart => exact ⟨(1), (by first | rfl | (simp; done) | (simp [*]; done)), H', ⟨Nat.le_refl _⟩, ⟨by repeat (first | (with_reducible first | exact HB.out | apply below_alloc | apply pw_below_drewN | apply below_drew1) | exact HB.out)⟩⟩
 case round =>
  clear H'
  obtain ⟨x3_1, rfl, HA, HK1, HB⟩ := hrel
  cases gk with
  | zero => exact absurd HA.out (by simp [moultref12_Sorted.l0])
  | succ k1 =>
   have H := HA.out
   clear HA
   simp only [moultref12_Sorted.l0] at H
   by_cases c2 : x3_1 < (l0.length : Int)
   ·rw [if_pos c2] at H
    have c2b0 : decide (x3_1 < (l0.length : Int)) = true := decide_eq_true c2
    clear c2
    obtain ⟨ji3, hji3⟩ : ∃ j_ : Int, (wrap64 (x3_1 - 1)) = j_ := ⟨_, rfl⟩
    replace H : (if 0 ≤ (ji3) then (if (ji3) < (l0.length : Int) then (if 0 ≤ x3_1 then ((moultref10_Less.f k1 ((rd_T36 l0 (ji3)).f0) ((rd_T36 l0 (ji3)).f1) ((rd_T36 l0 (ji3)).f2) ((rd_T36 l0 (ji3)).f3) ((rd_T36 l0 x3_1).f0) ((rd_T36 l0 x3_1).f1) ((rd_T36 l0 x3_1).f2) ((rd_T36 l0 x3_1).f3)).bind fun t458 => (if t458 = true then (moultref12_Sorted.l0 k1 l0 (wrap64 (x3_1 + 1))) else (some false))) else (none)) else (none)) else (none)) = some r := by first | (rw [hji3] at H; exact H) | (simp only [hji3] at H ⊢; exact H)
    have hji3w : (IntKind.i64.wrap (x3_1 - 1)) = ji3 := (i64_w _).trans hji3
    by_cases c4 : 0 ≤ (ji3)
    ·rw [if_pos c4] at H
     have c4b0 : decide (0 ≤ (ji3)) = true := decide_eq_true c4
     clear c4
     by_cases c5 : (ji3) < (l0.length : Int)
     ·rw [if_pos c5] at H
      have c5b0 : decide ((ji3) < (l0.length : Int)) = true := decide_eq_true c5
      clear c5
      by_cases c6 : 0 ≤ x3_1
      ·rw [if_pos c6] at H
       have c6b0 : decide (0 ≤ x3_1) = true := decide_eq_true c6
       clear c6
       replace H := Option.bind_eq_some_iff.mp H
       obtain ⟨t458, A70, H⟩ := H
       replace H : (if t458 = true then (moultref12_Sorted.l0 k1 l0 (wrap64 (x3_1 + 1))) else (some false)) = some r := H
       have A7 := Aside0.mk A70
       clear A70
       by_cases c8 : t458 = true
       ·subst c8
        have H1 : (moultref12_Sorted.l0 k1 l0 (wrap64 (x3_1 + 1))) = some r := by rw [if_pos rfl] at H; exact H
        clear H
        have H := H1
        clear H1
        have H' := Aside0.mk H
        clear H
        try go_wp2
        have n0_ := Aside0.mk (below_drew1 HB.out)
        clear HB
        have HB := n0_
        clear n0_
        have p456 : 0 ≤ ((ji3) : Int) := of_decide_eq_true (by first | (with_reducible assumption) | assumption)
        have q456 : (ji3) < (l0.length : Int) := of_decide_eq_true (by first | (with_reducible assumption) | assumption)
        obtain ⟨ad456, e456, hx456_0, hx456_1, hx456_2, hx456_3⟩ := at_T36 HR0.out (ji3) p456 q456
        have hw456_3 := hx456_3
        have hw456_2 := hx456_2
        have hw456_1 := hx456_1
        have hw456_0 := hx456_0
        cases e456
        replace hx456_0 := (HB.out.cell (World.block_lt_of_cell? w _ hx456_0)).trans hx456_0
        replace hx456_1 := (HB.out.cell (World.block_lt_of_cell? w _ hx456_1)).trans hx456_1
        replace hx456_2 := (HB.out.cell (World.block_lt_of_cell? w _ hx456_2)).trans hx456_2
        replace hx456_3 := (HB.out.cell (World.block_lt_of_cell? w _ hx456_3)).trans hx456_3
        replace p456 := eq_true p456
        replace q456 := eq_true q456
        have p457 : 0 ≤ (x3_1 : Int) := of_decide_eq_true (by first | (with_reducible assumption) | assumption)
        have q457 : x3_1 < (l0.length : Int) := of_decide_eq_true (by first | (with_reducible assumption) | assumption)
        obtain ⟨ad457, e457, hx457_0, hx457_1, hx457_2, hx457_3⟩ := at_T36 HR0.out x3_1 p457 q457
        have hw457_3 := hx457_3
        have hw457_2 := hx457_2
        have hw457_1 := hx457_1
        have hw457_0 := hx457_0
        obtain rfl : ad456 = ad457 := (by injection e457)
        replace hx457_0 := (HB.out.cell (World.block_lt_of_cell? w _ hx457_0)).trans hx457_0
        replace hx457_1 := (HB.out.cell (World.block_lt_of_cell? w _ hx457_1)).trans hx457_1
        replace hx457_2 := (HB.out.cell (World.block_lt_of_cell? w _ hx457_2)).trans hx457_2
        replace hx457_3 := (HB.out.cell (World.block_lt_of_cell? w _ hx457_3)).trans hx457_3
        replace p457 := eq_true p457
        replace q457 := eq_true q457
        refine start_ (n := 11) (S := fun w' => w'.cell? (ad456.add (((ji3)).toNat * 4)) = some (.string ((rd_T36 l0 (ji3)).f0)) ∧ w'.cell? ⟨(ad456.add (((ji3)).toNat * 4)).block, (ad456.add (((ji3)).toNat * 4)).off + 1, none⟩ = some (.int .i64 ((rd_T36 l0 (ji3)).f1)) ∧ w'.cell? ⟨(ad456.add (((ji3)).toNat * 4)).block, (ad456.add (((ji3)).toNat * 4)).off + 2, none⟩ = some (.bool ((rd_T36 l0 (ji3)).f2)) ∧ w'.cell? ⟨(ad456.add (((ji3)).toNat * 4)).block, (ad456.add (((ji3)).toNat * 4)).off + 3, none⟩ = some (.string ((rd_T36 l0 (ji3)).f3)) ∧ w'.cell? (ad456.add ((x3_1).toNat * 4)) = some (.string ((rd_T36 l0 x3_1).f0)) ∧ w'.cell? ⟨(ad456.add ((x3_1).toNat * 4)).block, (ad456.add ((x3_1).toNat * 4)).off + 1, none⟩ = some (.int .i64 ((rd_T36 l0 x3_1).f1)) ∧ w'.cell? ⟨(ad456.add ((x3_1).toNat * 4)).block, (ad456.add ((x3_1).toNat * 4)).off + 2, none⟩ = some (.bool ((rd_T36 l0 x3_1).f2)) ∧ w'.cell? ⟨(ad456.add ((x3_1).toNat * 4)).block, (ad456.add ((x3_1).toNat * 4)).off + 3, none⟩ = some (.string ((rd_T36 l0 x3_1).f3))) (ds := []) #[ff, ff, ff, ff, ff, ff, ff, ff, ff, ff, ff] (by kernel_rfl) rfl rfl ⟨((HB.out.cell (World.block_lt_of_cell? w _ hw456_0)).trans hw456_0), ((HB.out.cell (World.block_lt_of_cell? w _ hw456_1)).trans hw456_1), ((HB.out.cell (World.block_lt_of_cell? w _ hw456_2)).trans hw456_2), ((HB.out.cell (World.block_lt_of_cell? w _ hw456_3)).trans hw456_3), ((HB.out.cell (World.block_lt_of_cell? w _ hw457_0)).trans hw457_0), ((HB.out.cell (World.block_lt_of_cell? w _ hw457_1)).trans hw457_1), ((HB.out.cell (World.block_lt_of_cell? w _ hw457_2)).trans hw457_2), ((HB.out.cell (World.block_lt_of_cell? w _ hw457_3)).trans hw457_3)⟩ (fun hHeld => ?_); refine with_tabW moultref12_Sorted.tab4 moultref12_Sorted.bits4 (fun HT_ HW_ => ?_)
        generalize wr.drew = w9 at HB hx456_0 hx456_1 hx456_2 hx456_3 hx457_0 hx457_1 hx457_2 hx457_3 hHeld ⊢
        refine pq_ (i := 0) (N := some 10) HT_ #[tt, ff, ff, ff, ff, ff, ff, ff, ff, ff, ff] ?_
        refine pq_ (i := 1) (N := some 11) HT_ #[tt, tt, ff, ff, ff, ff, ff, ff, ff, ff, ff] ?_
        refine pq_ (i := 2) (N := some 12) HT_ #[tt, tt, tt, ff, ff, ff, ff, ff, ff, ff, ff] ?_
        refine pq_ (i := 3) (N := some 13) HT_ #[tt, tt, tt, tt, ff, ff, ff, ff, ff, ff, ff] ?_
        refine pq_ (i := 5) (N := some 15) HT_ #[tt, tt, tt, tt, ff, tt, ff, ff, ff, ff, ff] ?_
        refine pq_ (i := 6) (N := some 16) HT_ #[tt, tt, tt, tt, ff, tt, tt, ff, ff, ff, ff] ?_
        refine pq_ (i := 7) (N := some 17) HT_ #[tt, tt, tt, tt, ff, tt, tt, tt, ff, ff, ff] ?_
        refine take_ (i := 4) (N := some 14) (v := ?_) (a' := ?_) #[tt, tt, tt, tt, tt, tt, tt, tt, ff, ff, ff] rfl rfl (take_ofW HT_.out HW_.out (by kernel_rfl)) (fun _ _ _ h => h) (Or.inl ⟨by rfl, ?_⟩) hHeld ?_ ?_
        rotate_left
        ·rintro w' ⟨s0, s1, s2, s3, s4, s5, s6, s7⟩
         go_simp
         with_reducible rfl
        rotate_left
        ·simp only [Act.put, List.setIfInBounds_toArray, List.set_cons_zero, List.set_cons_succ, i64_w, i32_w]
         rfl
        refine take_ (i := 8) (N := some 18) (v := ?_) (a' := ?_) #[tt, tt, tt, tt, tt, tt, tt, tt, tt, ff, ff] rfl rfl (take_ofW HT_.out HW_.out (by kernel_rfl)) (fun _ _ _ h => h) (Or.inl ⟨by rfl, ?_⟩) hHeld ?_ ?_
        rotate_left
        ·rintro w' ⟨s0, s1, s2, s3, s4, s5, s6, s7⟩
         go_simp
         with_reducible rfl
        rotate_left
        ·simp only [Act.put, List.setIfInBounds_toArray, List.set_cons_zero, List.set_cons_succ, i64_w, i32_w]
         rfl
        refine one_ (i := 9) (N := some 19) #[tt, tt, tt, tt, tt, tt, tt, tt, tt, tt, ff] rfl rfl (one_of HT_.out (by kernel_rfl)) (by decide) (fun K hK => ?_)
        refine goes_ Try.func34 (by kernel_rfl) rfl #[.agg #[.string ((rd_T36 l0 (ji3)).f0), .int .i64 ((rd_T36 l0 (ji3)).f1), .bool ((rd_T36 l0 (ji3)).f2), .string ((rd_T36 l0 (ji3)).f3)], .agg #[.string ((rd_T36 l0 x3_1).f0), .int .i64 ((rd_T36 l0 x3_1).f1), .bool ((rd_T36 l0 x3_1).f2), .string ((rd_T36 l0 x3_1).f3)]] (by rfl) rfl rfl (by (try simp only [List.map_toArray, List.map_cons, List.map_nil]); first | done | (simp only [hji3]; rfl) | rfl | (simp only [List.length_drop, List.length_take]; rfl)) ?_
        with_reducible refine (moultref10_Less.calls k1 ((rd_T36 l0 (ji3)).f0) ((rd_T36 l0 (ji3)).f1) ((rd_T36 l0 (ji3)).f2) ((rd_T36 l0 (ji3)).f3) ((rd_T36 l0 x3_1).f0) ((rd_T36 l0 x3_1).f1) ((rd_T36 l0 x3_1).f2) ((rd_T36 l0 x3_1).f3) true _ A7.out).mono ?_
        rintro e w10 ⟨rfl, hb⟩
        refine ⟨_, rfl, ?_⟩
        have n0_ := Aside0.mk (below_step HB.out hb)
        clear HB
        have HB := n0_
        clear n0_
        (try clear hb)
        (try clear hb2)
        (try clear hk)
        (try clear hi)
        refine hK.out _ _ ⟨((HB.out.cell (World.block_lt_of_cell? w _ hw456_0)).trans hw456_0), ((HB.out.cell (World.block_lt_of_cell? w _ hw456_1)).trans hw456_1), ((HB.out.cell (World.block_lt_of_cell? w _ hw456_2)).trans hw456_2), ((HB.out.cell (World.block_lt_of_cell? w _ hw456_3)).trans hw456_3), ((HB.out.cell (World.block_lt_of_cell? w _ hw457_0)).trans hw457_0), ((HB.out.cell (World.block_lt_of_cell? w _ hw457_1)).trans hw457_1), ((HB.out.cell (World.block_lt_of_cell? w _ hw457_2)).trans hw457_2), ((HB.out.cell (World.block_lt_of_cell? w _ hw457_3)).trans hw457_3)⟩ (fun hHeld => ?_)
        clear hK K
        refine norm_ (a' := ?_) ?_ ?_
        rotate_left
        ·show Act.put _ (some 19) _ = _
         simp only [Act.put, List.setIfInBounds_toArray, List.set_cons_zero, List.set_cons_succ, i64_w, i32_w]
         rfl
        refine pq_ (i := 10) (N := some 20) HT_ #[tt, tt, tt, tt, tt, tt, tt, tt, tt, tt, tt] ?_
        refine done_ (done_of HT_.out (by kernel_rfl)) ?_
        try go_wp2
        go_roundg k1
        case measure => have := HK1.out; omega
        case rel => exact ⟨(wrap64 (x3_1 + 1)), (by first | rfl | (simp; done) | (simp [*]; done)), H', ⟨by have := HK1.out; omega⟩, ⟨by repeat (first | (with_reducible first | exact HB.out | apply below_alloc | apply pw_below_drewN | apply below_drew1) | exact HB.out)⟩⟩
       ·replace c8 := Bool.eq_false_iff.mpr c8
        subst c8
        have H1 : (some false) = some r := by rw [if_neg (show ¬ (false = true) by decide)] at H; exact H
        clear H
        have H := H1
        clear H1
        obtain rfl := Option.some.inj H
        try go_wp2
        have n0_ := Aside0.mk (below_drew1 HB.out)
        clear HB
        have HB := n0_
        clear n0_
        have p456 : 0 ≤ ((ji3) : Int) := of_decide_eq_true (by first | (with_reducible assumption) | assumption)
        have q456 : (ji3) < (l0.length : Int) := of_decide_eq_true (by first | (with_reducible assumption) | assumption)
        obtain ⟨ad456, e456, hx456_0, hx456_1, hx456_2, hx456_3⟩ := at_T36 HR0.out (ji3) p456 q456
        have hw456_3 := hx456_3
        have hw456_2 := hx456_2
        have hw456_1 := hx456_1
        have hw456_0 := hx456_0
        cases e456
        replace hx456_0 := (HB.out.cell (World.block_lt_of_cell? w _ hx456_0)).trans hx456_0
        replace hx456_1 := (HB.out.cell (World.block_lt_of_cell? w _ hx456_1)).trans hx456_1
        replace hx456_2 := (HB.out.cell (World.block_lt_of_cell? w _ hx456_2)).trans hx456_2
        replace hx456_3 := (HB.out.cell (World.block_lt_of_cell? w _ hx456_3)).trans hx456_3
        replace p456 := eq_true p456
        replace q456 := eq_true q456
        have p457 : 0 ≤ (x3_1 : Int) := of_decide_eq_true (by first | (with_reducible assumption) | assumption)
        have q457 : x3_1 < (l0.length : Int) := of_decide_eq_true (by first | (with_reducible assumption) | assumption)
        obtain ⟨ad457, e457, hx457_0, hx457_1, hx457_2, hx457_3⟩ := at_T36 HR0.out x3_1 p457 q457
        have hw457_3 := hx457_3
        have hw457_2 := hx457_2
        have hw457_1 := hx457_1
        have hw457_0 := hx457_0
        obtain rfl : ad456 = ad457 := (by injection e457)
        replace hx457_0 := (HB.out.cell (World.block_lt_of_cell? w _ hx457_0)).trans hx457_0
        replace hx457_1 := (HB.out.cell (World.block_lt_of_cell? w _ hx457_1)).trans hx457_1
        replace hx457_2 := (HB.out.cell (World.block_lt_of_cell? w _ hx457_2)).trans hx457_2
        replace hx457_3 := (HB.out.cell (World.block_lt_of_cell? w _ hx457_3)).trans hx457_3
        replace p457 := eq_true p457
        replace q457 := eq_true q457
        refine start_ (n := 11) (S := fun w' => w'.cell? (ad456.add (((ji3)).toNat * 4)) = some (.string ((rd_T36 l0 (ji3)).f0)) ∧ w'.cell? ⟨(ad456.add (((ji3)).toNat * 4)).block, (ad456.add (((ji3)).toNat * 4)).off + 1, none⟩ = some (.int .i64 ((rd_T36 l0 (ji3)).f1)) ∧ w'.cell? ⟨(ad456.add (((ji3)).toNat * 4)).block, (ad456.add (((ji3)).toNat * 4)).off + 2, none⟩ = some (.bool ((rd_T36 l0 (ji3)).f2)) ∧ w'.cell? ⟨(ad456.add (((ji3)).toNat * 4)).block, (ad456.add (((ji3)).toNat * 4)).off + 3, none⟩ = some (.string ((rd_T36 l0 (ji3)).f3)) ∧ w'.cell? (ad456.add ((x3_1).toNat * 4)) = some (.string ((rd_T36 l0 x3_1).f0)) ∧ w'.cell? ⟨(ad456.add ((x3_1).toNat * 4)).block, (ad456.add ((x3_1).toNat * 4)).off + 1, none⟩ = some (.int .i64 ((rd_T36 l0 x3_1).f1)) ∧ w'.cell? ⟨(ad456.add ((x3_1).toNat * 4)).block, (ad456.add ((x3_1).toNat * 4)).off + 2, none⟩ = some (.bool ((rd_T36 l0 x3_1).f2)) ∧ w'.cell? ⟨(ad456.add ((x3_1).toNat * 4)).block, (ad456.add ((x3_1).toNat * 4)).off + 3, none⟩ = some (.string ((rd_T36 l0 x3_1).f3))) (ds := []) #[ff, ff, ff, ff, ff, ff, ff, ff, ff, ff, ff] (by kernel_rfl) rfl rfl ⟨((HB.out.cell (World.block_lt_of_cell? w _ hw456_0)).trans hw456_0), ((HB.out.cell (World.block_lt_of_cell? w _ hw456_1)).trans hw456_1), ((HB.out.cell (World.block_lt_of_cell? w _ hw456_2)).trans hw456_2), ((HB.out.cell (World.block_lt_of_cell? w _ hw456_3)).trans hw456_3), ((HB.out.cell (World.block_lt_of_cell? w _ hw457_0)).trans hw457_0), ((HB.out.cell (World.block_lt_of_cell? w _ hw457_1)).trans hw457_1), ((HB.out.cell (World.block_lt_of_cell? w _ hw457_2)).trans hw457_2), ((HB.out.cell (World.block_lt_of_cell? w _ hw457_3)).trans hw457_3)⟩ (fun hHeld => ?_); refine with_tabW moultref12_Sorted.tab4 moultref12_Sorted.bits4 (fun HT_ HW_ => ?_)
        generalize wr.drew = w11 at HB hx456_0 hx456_1 hx456_2 hx456_3 hx457_0 hx457_1 hx457_2 hx457_3 hHeld ⊢
        refine pq_ (i := 0) (N := some 10) HT_ #[tt, ff, ff, ff, ff, ff, ff, ff, ff, ff, ff] ?_
        refine pq_ (i := 1) (N := some 11) HT_ #[tt, tt, ff, ff, ff, ff, ff, ff, ff, ff, ff] ?_
        refine pq_ (i := 2) (N := some 12) HT_ #[tt, tt, tt, ff, ff, ff, ff, ff, ff, ff, ff] ?_
        refine pq_ (i := 3) (N := some 13) HT_ #[tt, tt, tt, tt, ff, ff, ff, ff, ff, ff, ff] ?_
        refine pq_ (i := 5) (N := some 15) HT_ #[tt, tt, tt, tt, ff, tt, ff, ff, ff, ff, ff] ?_
        refine pq_ (i := 6) (N := some 16) HT_ #[tt, tt, tt, tt, ff, tt, tt, ff, ff, ff, ff] ?_
        refine pq_ (i := 7) (N := some 17) HT_ #[tt, tt, tt, tt, ff, tt, tt, tt, ff, ff, ff] ?_
        refine take_ (i := 4) (N := some 14) (v := ?_) (a' := ?_) #[tt, tt, tt, tt, tt, tt, tt, tt, ff, ff, ff] rfl rfl (take_ofW HT_.out HW_.out (by kernel_rfl)) (fun _ _ _ h => h) (Or.inl ⟨by rfl, ?_⟩) hHeld ?_ ?_
        rotate_left
        ·rintro w' ⟨s0, s1, s2, s3, s4, s5, s6, s7⟩
         go_simp
         with_reducible rfl
        rotate_left
        ·simp only [Act.put, List.setIfInBounds_toArray, List.set_cons_zero, List.set_cons_succ, i64_w, i32_w]
         rfl
        refine take_ (i := 8) (N := some 18) (v := ?_) (a' := ?_) #[tt, tt, tt, tt, tt, tt, tt, tt, tt, ff, ff] rfl rfl (take_ofW HT_.out HW_.out (by kernel_rfl)) (fun _ _ _ h => h) (Or.inl ⟨by rfl, ?_⟩) hHeld ?_ ?_
        rotate_left
        ·rintro w' ⟨s0, s1, s2, s3, s4, s5, s6, s7⟩
         go_simp
         with_reducible rfl
        rotate_left
        ·simp only [Act.put, List.setIfInBounds_toArray, List.set_cons_zero, List.set_cons_succ, i64_w, i32_w]
         rfl
        refine one_ (i := 9) (N := some 19) #[tt, tt, tt, tt, tt, tt, tt, tt, tt, tt, ff] rfl rfl (one_of HT_.out (by kernel_rfl)) (by decide) (fun K hK => ?_)
        refine goes_ Try.func34 (by kernel_rfl) rfl #[.agg #[.string ((rd_T36 l0 (ji3)).f0), .int .i64 ((rd_T36 l0 (ji3)).f1), .bool ((rd_T36 l0 (ji3)).f2), .string ((rd_T36 l0 (ji3)).f3)], .agg #[.string ((rd_T36 l0 x3_1).f0), .int .i64 ((rd_T36 l0 x3_1).f1), .bool ((rd_T36 l0 x3_1).f2), .string ((rd_T36 l0 x3_1).f3)]] (by rfl) rfl rfl (by (try simp only [List.map_toArray, List.map_cons, List.map_nil]); first | done | (simp only [hji3]; rfl) | rfl | (simp only [List.length_drop, List.length_take]; rfl)) ?_
        with_reducible refine (moultref10_Less.calls k1 ((rd_T36 l0 (ji3)).f0) ((rd_T36 l0 (ji3)).f1) ((rd_T36 l0 (ji3)).f2) ((rd_T36 l0 (ji3)).f3) ((rd_T36 l0 x3_1).f0) ((rd_T36 l0 x3_1).f1) ((rd_T36 l0 x3_1).f2) ((rd_T36 l0 x3_1).f3) false _ A7.out).mono ?_
        rintro e w12 ⟨rfl, hb⟩
        refine ⟨_, rfl, ?_⟩
        have n0_ := Aside0.mk (below_step HB.out hb)
        clear HB
        have HB := n0_
        clear n0_
        (try clear hb)
        (try clear hb2)
        (try clear hk)
        (try clear hi)
        refine hK.out _ _ ⟨((HB.out.cell (World.block_lt_of_cell? w _ hw456_0)).trans hw456_0), ((HB.out.cell (World.block_lt_of_cell? w _ hw456_1)).trans hw456_1), ((HB.out.cell (World.block_lt_of_cell? w _ hw456_2)).trans hw456_2), ((HB.out.cell (World.block_lt_of_cell? w _ hw456_3)).trans hw456_3), ((HB.out.cell (World.block_lt_of_cell? w _ hw457_0)).trans hw457_0), ((HB.out.cell (World.block_lt_of_cell? w _ hw457_1)).trans hw457_1), ((HB.out.cell (World.block_lt_of_cell? w _ hw457_2)).trans hw457_2), ((HB.out.cell (World.block_lt_of_cell? w _ hw457_3)).trans hw457_3)⟩ (fun hHeld => ?_)
        clear hK K
        refine norm_ (a' := ?_) ?_ ?_
        rotate_left
        ·show Act.put _ (some 19) _ = _
         simp only [Act.put, List.setIfInBounds_toArray, List.set_cons_zero, List.set_cons_succ, i64_w, i32_w]
         rfl
        refine pq_ (i := 10) (N := some 20) HT_ #[tt, tt, tt, tt, tt, tt, tt, tt, tt, tt, tt] ?_
        refine done_ (done_of HT_.out (by kernel_rfl)) ?_
        try go_wp2
        go_ret
        exact ⟨by first | rfl | (simp [errW_none, errW_some] <;> rfl) | (simp only [← hji3]; first | rfl | (simp [errW_none, errW_some] <;> rfl)) | (simp [*, errW_none, errW_some] <;> rfl), by repeat (first | (with_reducible first | exact HB.out | apply below_alloc | apply pw_below_drewN | apply below_drew1) | exact HB.out)⟩
      ·rw [if_neg c6] at H
       exact absurd H (by simp)
     ·rw [if_neg c5] at H
      exact absurd H (by simp)
    ·rw [if_neg c4] at H
     exact absurd H (by simp)
   ·rw [if_neg c2] at H
    have c2b0 : decide (x3_1 < (l0.length : Int)) = false := decide_eq_false c2
    clear c2
    obtain rfl := Option.some.inj H
    go_wp2
    go_ret
    exact ⟨by first | rfl | (simp [errW_none, errW_some] <;> rfl) | (simp [*, errW_none, errW_some] <;> rfl), by repeat (first | (with_reducible first | exact HB.out | apply below_alloc | apply pw_below_drewN | apply below_drew1) | exact HB.out)⟩

end Go.Proofs.Ythdoanbadhfhjaa.PAll

-- slimmed
