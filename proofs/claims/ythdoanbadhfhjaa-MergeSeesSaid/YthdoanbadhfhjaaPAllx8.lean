-- Laid by ownprint.py (a program of the session, in wip/tools), out of the translation: Lean checks it.
import Derived.Test.YthdoanbadhfhjaaPAllx0
import Derived.Test.YthdoanbadhfhjaaPAllx2
import Derived.Test.YthdoanbadhfhjaaGv
import Derived.Test.YthdoanbadhfhjaaGw
namespace Go.Proofs.Ythdoanbadhfhjaa.PAll
open Go.RowKit Go.Proofs.YthdoanbadhfhjaaW.PrintWords Go.Proofs.YthdoanbadhfhjaaW.PrintLast Go.Proofs.YthdoanbadhfhjaaW.PrintMore
attribute [local go_sem] max2_int min2_int max_two min_two max_three min_three max_four min_four   -- for this text's walks alone
set_option linter.unusedVariables false
set_option linter.unusedSimpArgs false

/-! ### merge_Sorted: function 19 -/
def merge_Sorted.l0 : Nat → List (S36) → Int → Option (Bool)
 | 0, _, _ => none
 | k + 1, x0, x3 => if x3 < (x0.length : Int) then (if 0 ≤ (wrap64 (x3 - 1)) then (if (wrap64 (x3 - 1)) < (x0.length : Int) then (if 0 ≤ x3 then ((table_Less.f k ((rd_T36 x0 (wrap64 (x3 - 1))).f0) ((rd_T36 x0 (wrap64 (x3 - 1))).f1) ((rd_T36 x0 (wrap64 (x3 - 1))).f2) ((rd_T36 x0 (wrap64 (x3 - 1))).f3) ((rd_T36 x0 x3).f0) ((rd_T36 x0 x3).f1) ((rd_T36 x0 x3).f2) ((rd_T36 x0 x3).f3)).bind fun t242 => (if t242 = true then (merge_Sorted.l0 k x0 (wrap64 (x3 + 1))) else (some false))) else (none)) else (none)) else (none)) else (some true)
def merge_Sorted.f (k : Nat) (l0 : List (S36)) : Option (Bool) := merge_Sorted.l0 k l0 1
theorem merge_Sorted.mono_l : ∀ k, (∀ y0 y1, LeO (merge_Sorted.l0 k y0 y1) (merge_Sorted.l0 (k + 1) y0 y1))
 | 0 => fun _ _ r h => by simp [merge_Sorted.l0] at h
 | k + 1 => by
  have ih0 := merge_Sorted.mono_l k
  ·intro y0 y1
   unfold merge_Sorted.l0
   repeat' first
   | (with_reducible exact ih0 _ _)
   | (with_reducible exact table_Less.mono _ _ _ _ _ _ _ _ _)
   | (with_reducible exact LeO.refl _)
   | (with_reducible exact LeO.none _)
   | (with_reducible refine LeO.ite ?_ ?_)
   | (with_reducible refine LeO.bind ?_ (fun _ => ?_))
   | exact ih0 _ _
   | exact table_Less.mono _ _ _ _ _ _ _ _ _
   | exact LeO.none _
   | refine LeO.ite ?_ ?_
   | refine LeO.bind ?_ (fun _ => ?_)
theorem merge_Sorted.mono : ∀ a0 k, LeO (merge_Sorted.f k a0) (merge_Sorted.f (k + 1) a0) := by
 intro a0 k
 have ih0 := merge_Sorted.mono_l k
 unfold merge_Sorted.f
 repeat' first
   | (with_reducible exact ih0 _ _)
   | (with_reducible exact table_Less.mono _ _ _ _ _ _ _ _ _)
   | (with_reducible exact LeO.refl _)
   | (with_reducible exact LeO.none _)
   | (with_reducible refine LeO.ite ?_ ?_)
   | (with_reducible refine LeO.bind ?_ (fun _ => ?_))
   | exact ih0 _ _
   | exact table_Less.mono _ _ _ _ _ _ _ _ _
   | exact LeO.none _
   | refine LeO.ite ?_ ?_
   | refine LeO.bind ?_ (fun _ => ?_)
def merge_Sorted.T4 : Bool × List (List Nat × List Nat) := (true, [([], []), ([], []), ([1], [1]), ([0, 2], [0, 2]), ([3], [3]), ([], []), ([], []), ([5, 6], [5, 6]), ([7], [7]), ([4, 8], [4, 8]), ([9], [9])])
def merge_Sorted.B4 : List Nat := [0, 0, 2, 7, 15, 0, 0, 96, 224, 511, 1023]
theorem merge_Sorted.tab4 : rtab .any (opsOf Try.f19 4) = merge_Sorted.T4 := by kernel_rfl
theorem merge_Sorted.bits4 : waitsOk merge_Sorted.T4.2 merge_Sorted.B4 = true := by kernel_rfl
set_option maxHeartbeats 8000000 in
set_option maxRecDepth 100000 in
theorem merge_Sorted.calls (k : Nat) (A0 : Option Addr) (c0 : Nat) (l0 : List (S36)) (r : Bool) (w : World) (hr0 : Kd.C k36 w A0 l0.length l0) (hc0 : l0.length ≤ c0) (h : merge_Sorted.f k l0 = some r) :
  Calls Try.prog 19 #[.slice A0 l0.length c0] w fun e w' => e = .returned (.bool r) ∧ Below w.heap.size w w' := by
 have hu36 := Try.underlying36
 have HR0 := Aside0.mk hr0
 have HC0 := Aside0.mk hc0
 clear hr0 hc0
 have HB := Aside0.mk (Below.refl w.heap.size w)
 have H : (merge_Sorted.l0 k l0 1) = some r := h
 clear h
 have H' := Aside0.mk H
 clear H
 go_enter Try.func19, Try.ntmps19
 go_wp2
 go_loopg [3] k (fun kq v3 w' => ∃ (x3_1 : Int), v3 = .int .i64 x3_1 ∧ Aside0 (merge_Sorted.l0 kq l0 x3_1 = some r) ∧ Aside0 (kq ≤ k) ∧ Aside0 (Below w.heap.size w w'))
 case atStart => exact ⟨(1), (by first | rfl | (simp; done) | (simp [*]; done)), H', ⟨Nat.le_refl _⟩, ⟨by repeat (first | (with_reducible first | exact HB.out | apply below_alloc | apply pw_below_drewN | apply below_drew1) | exact HB.out)⟩⟩
 case round =>
  clear H'
  try clear c1
  obtain ⟨x3_1, rfl, HA, HK1, HB⟩ := hrel
  cases gk with
  | zero => exact absurd HA.out (by simp [merge_Sorted.l0])
  | succ k1 =>
   have H := HA.out
   clear HA
   simp only [merge_Sorted.l0] at H
   by_cases c2 : x3_1 < (l0.length : Int)
   ·rw [if_pos c2] at H
    have c2b0 : decide (x3_1 < (l0.length : Int)) = true := decide_eq_true c2
    clear c2
    obtain ⟨ji3, hji3⟩ : ∃ j_ : Int, (wrap64 (x3_1 - 1)) = j_ := ⟨_, rfl⟩
    replace H : (if 0 ≤ (ji3) then (if (ji3) < (l0.length : Int) then (if 0 ≤ x3_1 then ((table_Less.f k1 ((rd_T36 l0 (ji3)).f0) ((rd_T36 l0 (ji3)).f1) ((rd_T36 l0 (ji3)).f2) ((rd_T36 l0 (ji3)).f3) ((rd_T36 l0 x3_1).f0) ((rd_T36 l0 x3_1).f1) ((rd_T36 l0 x3_1).f2) ((rd_T36 l0 x3_1).f3)).bind fun t242 => (if t242 = true then (merge_Sorted.l0 k1 l0 (wrap64 (x3_1 + 1))) else (some false))) else (none)) else (none)) else (none)) = some r := by first | (rw [hji3] at H; exact H) | (simp only [hji3] at H ⊢; exact H)
    have hji3w : (IntKind.i64.wrap (x3_1 - 1)) = ji3 := (i64_w _).trans hji3
    by_cases c4 : 0 ≤ (ji3)
    ·rw [if_pos c4] at H
     have c4b0 : decide (0 ≤ (ji3)) = true := decide_eq_true c4
     clear c4
     by_cases c5 : (ji3) < (l0.length : Int)
     ·rw [if_pos c5] at H
      have c5b0 : decide ((ji3) < (l0.length : Int)) = true := decide_eq_true c5
      clear c5
      by_cases c6 : 0 ≤ x3_1
      ·rw [if_pos c6] at H
       have c6b0 : decide (0 ≤ x3_1) = true := decide_eq_true c6
       clear c6
       replace H := Option.bind_eq_some_iff.mp H
       obtain ⟨t242, A70, H⟩ := H
       replace H : (if t242 = true then (merge_Sorted.l0 k1 l0 (wrap64 (x3_1 + 1))) else (some false)) = some r := H
       have A7 := Aside0.mk A70
       clear A70
       by_cases c8 : t242 = true
       ·subst c8
        have H1 : (merge_Sorted.l0 k1 l0 (wrap64 (x3_1 + 1))) = some r := by rw [if_pos rfl] at H; exact H
        clear H
        have H := H1
        clear H1
        have H' := Aside0.mk H
        clear H
        try go_wp2
        have n0_ := Aside0.mk (below_drew1 HB.out)
        clear HB
        have HB := n0_
        clear n0_
        have p240 : 0 ≤ ((ji3) : Int) := of_decide_eq_true (by first | (with_reducible assumption) | assumption)
        have q240 : (ji3) < (l0.length : Int) := of_decide_eq_true (by first | (with_reducible assumption) | assumption)
        obtain ⟨ad240, e240, hx240_0, hx240_1, hx240_2, hx240_3⟩ := at_T36 HR0.out (ji3) p240 q240
        have hw240_3 := hx240_3
        have hw240_2 := hx240_2
        have hw240_1 := hx240_1
        have hw240_0 := hx240_0
        cases e240
        replace hx240_0 := (HB.out.cell (World.block_lt_of_cell? w _ hx240_0)).trans hx240_0
        replace hx240_1 := (HB.out.cell (World.block_lt_of_cell? w _ hx240_1)).trans hx240_1
        replace hx240_2 := (HB.out.cell (World.block_lt_of_cell? w _ hx240_2)).trans hx240_2
        replace hx240_3 := (HB.out.cell (World.block_lt_of_cell? w _ hx240_3)).trans hx240_3
        replace p240 := eq_true p240
        replace q240 := eq_true q240
        have p241 : 0 ≤ (x3_1 : Int) := of_decide_eq_true (by first | (with_reducible assumption) | assumption)
        have q241 : x3_1 < (l0.length : Int) := of_decide_eq_true (by first | (with_reducible assumption) | assumption)
        obtain ⟨ad241, e241, hx241_0, hx241_1, hx241_2, hx241_3⟩ := at_T36 HR0.out x3_1 p241 q241
        have hw241_3 := hx241_3
        have hw241_2 := hx241_2
        have hw241_1 := hx241_1
        have hw241_0 := hx241_0
        obtain rfl : ad240 = ad241 := (by injection e241)
        replace hx241_0 := (HB.out.cell (World.block_lt_of_cell? w _ hx241_0)).trans hx241_0
        replace hx241_1 := (HB.out.cell (World.block_lt_of_cell? w _ hx241_1)).trans hx241_1
        replace hx241_2 := (HB.out.cell (World.block_lt_of_cell? w _ hx241_2)).trans hx241_2
        replace hx241_3 := (HB.out.cell (World.block_lt_of_cell? w _ hx241_3)).trans hx241_3
        replace p241 := eq_true p241
        replace q241 := eq_true q241
        refine start_ (n := 11) (S := fun w' => w'.cell? (ad240.add (((ji3)).toNat * 4)) = some (.string ((rd_T36 l0 (ji3)).f0)) ∧ w'.cell? ⟨(ad240.add (((ji3)).toNat * 4)).block, (ad240.add (((ji3)).toNat * 4)).off + 1, none⟩ = some (.int .i64 ((rd_T36 l0 (ji3)).f1)) ∧ w'.cell? ⟨(ad240.add (((ji3)).toNat * 4)).block, (ad240.add (((ji3)).toNat * 4)).off + 2, none⟩ = some (.bool ((rd_T36 l0 (ji3)).f2)) ∧ w'.cell? ⟨(ad240.add (((ji3)).toNat * 4)).block, (ad240.add (((ji3)).toNat * 4)).off + 3, none⟩ = some (.string ((rd_T36 l0 (ji3)).f3)) ∧ w'.cell? (ad240.add ((x3_1).toNat * 4)) = some (.string ((rd_T36 l0 x3_1).f0)) ∧ w'.cell? ⟨(ad240.add ((x3_1).toNat * 4)).block, (ad240.add ((x3_1).toNat * 4)).off + 1, none⟩ = some (.int .i64 ((rd_T36 l0 x3_1).f1)) ∧ w'.cell? ⟨(ad240.add ((x3_1).toNat * 4)).block, (ad240.add ((x3_1).toNat * 4)).off + 2, none⟩ = some (.bool ((rd_T36 l0 x3_1).f2)) ∧ w'.cell? ⟨(ad240.add ((x3_1).toNat * 4)).block, (ad240.add ((x3_1).toNat * 4)).off + 3, none⟩ = some (.string ((rd_T36 l0 x3_1).f3))) (ds := []) #[ff, ff, ff, ff, ff, ff, ff, ff, ff, ff, ff] (by kernel_rfl) rfl rfl ⟨((HB.out.cell (World.block_lt_of_cell? w _ hw240_0)).trans hw240_0), ((HB.out.cell (World.block_lt_of_cell? w _ hw240_1)).trans hw240_1), ((HB.out.cell (World.block_lt_of_cell? w _ hw240_2)).trans hw240_2), ((HB.out.cell (World.block_lt_of_cell? w _ hw240_3)).trans hw240_3), ((HB.out.cell (World.block_lt_of_cell? w _ hw241_0)).trans hw241_0), ((HB.out.cell (World.block_lt_of_cell? w _ hw241_1)).trans hw241_1), ((HB.out.cell (World.block_lt_of_cell? w _ hw241_2)).trans hw241_2), ((HB.out.cell (World.block_lt_of_cell? w _ hw241_3)).trans hw241_3)⟩ (fun hHeld => ?_); refine with_tabW merge_Sorted.tab4 merge_Sorted.bits4 (fun HT_ HW_ => ?_)
        generalize wr.drew = w9 at HB hx240_0 hx240_1 hx240_2 hx240_3 hx241_0 hx241_1 hx241_2 hx241_3 hHeld ⊢
        refine pq_ (i := 0) (N := some 10) HT_ #[tt, ff, ff, ff, ff, ff, ff, ff, ff, ff, ff] ?_
        refine pq_ (i := 1) (N := some 11) HT_ #[tt, tt, ff, ff, ff, ff, ff, ff, ff, ff, ff] ?_
        refine pq_ (i := 2) (N := some 12) HT_ #[tt, tt, tt, ff, ff, ff, ff, ff, ff, ff, ff] ?_
        refine pq_ (i := 3) (N := some 13) HT_ #[tt, tt, tt, tt, ff, ff, ff, ff, ff, ff, ff] ?_
        refine pq_ (i := 5) (N := some 15) HT_ #[tt, tt, tt, tt, ff, tt, ff, ff, ff, ff, ff] ?_
        refine pq_ (i := 6) (N := some 16) HT_ #[tt, tt, tt, tt, ff, tt, tt, ff, ff, ff, ff] ?_
        refine pq_ (i := 7) (N := some 17) HT_ #[tt, tt, tt, tt, ff, tt, tt, tt, ff, ff, ff] ?_
        refine take_ (i := 4) (N := some 14) (v := ?_) (a' := ?_) #[tt, tt, tt, tt, tt, tt, tt, tt, ff, ff, ff] rfl rfl (take_ofW HT_.out HW_.out (by kernel_rfl)) (fun _ _ _ h => h) (Or.inl ⟨by rfl, ?_⟩) hHeld ?_ ?_
        rotate_left
        ·rintro w' ⟨s0, s1, s2, s3, s4, s5, s6, s7⟩
         go_simp
         with_reducible rfl
        rotate_left
        ·simp only [Act.put, List.setIfInBounds_toArray, List.set_cons_zero, List.set_cons_succ, i64_w, i32_w]
         rfl
        refine take_ (i := 8) (N := some 18) (v := ?_) (a' := ?_) #[tt, tt, tt, tt, tt, tt, tt, tt, tt, ff, ff] rfl rfl (take_ofW HT_.out HW_.out (by kernel_rfl)) (fun _ _ _ h => h) (Or.inl ⟨by rfl, ?_⟩) hHeld ?_ ?_
        rotate_left
        ·rintro w' ⟨s0, s1, s2, s3, s4, s5, s6, s7⟩
         go_simp
         with_reducible rfl
        rotate_left
        ·simp only [Act.put, List.setIfInBounds_toArray, List.set_cons_zero, List.set_cons_succ, i64_w, i32_w]
         rfl
        refine one_ (i := 9) (N := some 19) #[tt, tt, tt, tt, tt, tt, tt, tt, tt, tt, ff] rfl rfl (one_of HT_.out (by kernel_rfl)) (by decide) (fun K hK => ?_)
        (first | refine goes_ Try.func26 (by kernel_rfl) rfl #[.agg #[.string ((rd_T36 l0 (ji3)).f0), .int .i64 ((rd_T36 l0 (ji3)).f1), .bool ((rd_T36 l0 (ji3)).f2), .string ((rd_T36 l0 (ji3)).f3)], .agg #[.string ((rd_T36 l0 x3_1).f0), .int .i64 ((rd_T36 l0 x3_1).f1), .bool ((rd_T36 l0 x3_1).f2), .string ((rd_T36 l0 x3_1).f3)]] (by rfl) rfl rfl (by (try simp only [List.map_toArray, List.map_cons, List.map_nil]); first | done | (simp only [hji3]; rfl) | rfl | (simp only [List.length_drop, List.length_take]; rfl)) ?_ | refine goesV_ Try.func26 (by kernel_rfl) rfl #[.agg #[.string ((rd_T36 l0 (ji3)).f0), .int .i64 ((rd_T36 l0 (ji3)).f1), .bool ((rd_T36 l0 (ji3)).f2), .string ((rd_T36 l0 (ji3)).f3)], .agg #[.string ((rd_T36 l0 x3_1).f0), .int .i64 ((rd_T36 l0 x3_1).f1), .bool ((rd_T36 l0 x3_1).f2), .string ((rd_T36 l0 x3_1).f3)]] (by rfl) rfl rfl rfl (by (try simp only [List.map_toArray, List.map_cons, List.map_nil]); first | done | (simp only [hji3]; rfl) | rfl | (simp only [List.length_drop, List.length_take]; rfl)) ?_)
        with_reducible refine (table_Less.calls k1 ((rd_T36 l0 (ji3)).f0) ((rd_T36 l0 (ji3)).f1) ((rd_T36 l0 (ji3)).f2) ((rd_T36 l0 (ji3)).f3) ((rd_T36 l0 x3_1).f0) ((rd_T36 l0 x3_1).f1) ((rd_T36 l0 x3_1).f2) ((rd_T36 l0 x3_1).f3) true _ A7.out).mono ?_
        rintro e w10 ⟨rfl, hb⟩
        refine ⟨_, rfl, ?_⟩
        have n0_ := Aside0.mk (below_step HB.out hb)
        clear HB
        have HB := n0_
        clear n0_
        (try clear hb)
        (try clear hb2)
        (try clear hk)
        (try clear hi)
        refine hK.out _ _ ⟨((HB.out.cell (World.block_lt_of_cell? w _ hw240_0)).trans hw240_0), ((HB.out.cell (World.block_lt_of_cell? w _ hw240_1)).trans hw240_1), ((HB.out.cell (World.block_lt_of_cell? w _ hw240_2)).trans hw240_2), ((HB.out.cell (World.block_lt_of_cell? w _ hw240_3)).trans hw240_3), ((HB.out.cell (World.block_lt_of_cell? w _ hw241_0)).trans hw241_0), ((HB.out.cell (World.block_lt_of_cell? w _ hw241_1)).trans hw241_1), ((HB.out.cell (World.block_lt_of_cell? w _ hw241_2)).trans hw241_2), ((HB.out.cell (World.block_lt_of_cell? w _ hw241_3)).trans hw241_3)⟩ (fun hHeld => ?_)
        clear hK K
        refine norm_ (a' := ?_) ?_ ?_
        rotate_left
        ·show Act.put _ (some 19) _ = _
         simp only [Act.put, List.setIfInBounds_toArray, List.set_cons_zero, List.set_cons_succ, i64_w, i32_w]
         rfl
        refine pq_ (i := 10) (N := some 20) HT_ #[tt, tt, tt, tt, tt, tt, tt, tt, tt, tt, tt] ?_
        refine done_ (done_of HT_.out (by kernel_rfl)) ?_
        try go_wp2
        go_roundg k1
        case measure => have := HK1.out; omega
        case rel => exact ⟨(wrap64 (x3_1 + 1)), (by first | rfl | (simp; done) | (simp [*]; done)), H', ⟨by have := HK1.out; omega⟩, ⟨by repeat (first | (with_reducible first | exact HB.out | apply below_alloc | apply pw_below_drewN | apply below_drew1) | exact HB.out)⟩⟩
       ·replace c8 := Bool.eq_false_iff.mpr c8
        subst c8
        have H1 : (some false) = some r := by rw [if_neg (show ¬ (false = true) by decide)] at H; exact H
        clear H
        have H := H1
        clear H1
        obtain rfl := Option.some.inj H
        try go_wp2
        have n0_ := Aside0.mk (below_drew1 HB.out)
        clear HB
        have HB := n0_
        clear n0_
        have p240 : 0 ≤ ((ji3) : Int) := of_decide_eq_true (by first | (with_reducible assumption) | assumption)
        have q240 : (ji3) < (l0.length : Int) := of_decide_eq_true (by first | (with_reducible assumption) | assumption)
        obtain ⟨ad240, e240, hx240_0, hx240_1, hx240_2, hx240_3⟩ := at_T36 HR0.out (ji3) p240 q240
        have hw240_3 := hx240_3
        have hw240_2 := hx240_2
        have hw240_1 := hx240_1
        have hw240_0 := hx240_0
        cases e240
        replace hx240_0 := (HB.out.cell (World.block_lt_of_cell? w _ hx240_0)).trans hx240_0
        replace hx240_1 := (HB.out.cell (World.block_lt_of_cell? w _ hx240_1)).trans hx240_1
        replace hx240_2 := (HB.out.cell (World.block_lt_of_cell? w _ hx240_2)).trans hx240_2
        replace hx240_3 := (HB.out.cell (World.block_lt_of_cell? w _ hx240_3)).trans hx240_3
        replace p240 := eq_true p240
        replace q240 := eq_true q240
        have p241 : 0 ≤ (x3_1 : Int) := of_decide_eq_true (by first | (with_reducible assumption) | assumption)
        have q241 : x3_1 < (l0.length : Int) := of_decide_eq_true (by first | (with_reducible assumption) | assumption)
        obtain ⟨ad241, e241, hx241_0, hx241_1, hx241_2, hx241_3⟩ := at_T36 HR0.out x3_1 p241 q241
        have hw241_3 := hx241_3
        have hw241_2 := hx241_2
        have hw241_1 := hx241_1
        have hw241_0 := hx241_0
        obtain rfl : ad240 = ad241 := (by injection e241)
        replace hx241_0 := (HB.out.cell (World.block_lt_of_cell? w _ hx241_0)).trans hx241_0
        replace hx241_1 := (HB.out.cell (World.block_lt_of_cell? w _ hx241_1)).trans hx241_1
        replace hx241_2 := (HB.out.cell (World.block_lt_of_cell? w _ hx241_2)).trans hx241_2
        replace hx241_3 := (HB.out.cell (World.block_lt_of_cell? w _ hx241_3)).trans hx241_3
        replace p241 := eq_true p241
        replace q241 := eq_true q241
        refine start_ (n := 11) (S := fun w' => w'.cell? (ad240.add (((ji3)).toNat * 4)) = some (.string ((rd_T36 l0 (ji3)).f0)) ∧ w'.cell? ⟨(ad240.add (((ji3)).toNat * 4)).block, (ad240.add (((ji3)).toNat * 4)).off + 1, none⟩ = some (.int .i64 ((rd_T36 l0 (ji3)).f1)) ∧ w'.cell? ⟨(ad240.add (((ji3)).toNat * 4)).block, (ad240.add (((ji3)).toNat * 4)).off + 2, none⟩ = some (.bool ((rd_T36 l0 (ji3)).f2)) ∧ w'.cell? ⟨(ad240.add (((ji3)).toNat * 4)).block, (ad240.add (((ji3)).toNat * 4)).off + 3, none⟩ = some (.string ((rd_T36 l0 (ji3)).f3)) ∧ w'.cell? (ad240.add ((x3_1).toNat * 4)) = some (.string ((rd_T36 l0 x3_1).f0)) ∧ w'.cell? ⟨(ad240.add ((x3_1).toNat * 4)).block, (ad240.add ((x3_1).toNat * 4)).off + 1, none⟩ = some (.int .i64 ((rd_T36 l0 x3_1).f1)) ∧ w'.cell? ⟨(ad240.add ((x3_1).toNat * 4)).block, (ad240.add ((x3_1).toNat * 4)).off + 2, none⟩ = some (.bool ((rd_T36 l0 x3_1).f2)) ∧ w'.cell? ⟨(ad240.add ((x3_1).toNat * 4)).block, (ad240.add ((x3_1).toNat * 4)).off + 3, none⟩ = some (.string ((rd_T36 l0 x3_1).f3))) (ds := []) #[ff, ff, ff, ff, ff, ff, ff, ff, ff, ff, ff] (by kernel_rfl) rfl rfl ⟨((HB.out.cell (World.block_lt_of_cell? w _ hw240_0)).trans hw240_0), ((HB.out.cell (World.block_lt_of_cell? w _ hw240_1)).trans hw240_1), ((HB.out.cell (World.block_lt_of_cell? w _ hw240_2)).trans hw240_2), ((HB.out.cell (World.block_lt_of_cell? w _ hw240_3)).trans hw240_3), ((HB.out.cell (World.block_lt_of_cell? w _ hw241_0)).trans hw241_0), ((HB.out.cell (World.block_lt_of_cell? w _ hw241_1)).trans hw241_1), ((HB.out.cell (World.block_lt_of_cell? w _ hw241_2)).trans hw241_2), ((HB.out.cell (World.block_lt_of_cell? w _ hw241_3)).trans hw241_3)⟩ (fun hHeld => ?_); refine with_tabW merge_Sorted.tab4 merge_Sorted.bits4 (fun HT_ HW_ => ?_)
        generalize wr.drew = w11 at HB hx240_0 hx240_1 hx240_2 hx240_3 hx241_0 hx241_1 hx241_2 hx241_3 hHeld ⊢
        refine pq_ (i := 0) (N := some 10) HT_ #[tt, ff, ff, ff, ff, ff, ff, ff, ff, ff, ff] ?_
        refine pq_ (i := 1) (N := some 11) HT_ #[tt, tt, ff, ff, ff, ff, ff, ff, ff, ff, ff] ?_
        refine pq_ (i := 2) (N := some 12) HT_ #[tt, tt, tt, ff, ff, ff, ff, ff, ff, ff, ff] ?_
        refine pq_ (i := 3) (N := some 13) HT_ #[tt, tt, tt, tt, ff, ff, ff, ff, ff, ff, ff] ?_
        refine pq_ (i := 5) (N := some 15) HT_ #[tt, tt, tt, tt, ff, tt, ff, ff, ff, ff, ff] ?_
        refine pq_ (i := 6) (N := some 16) HT_ #[tt, tt, tt, tt, ff, tt, tt, ff, ff, ff, ff] ?_
        refine pq_ (i := 7) (N := some 17) HT_ #[tt, tt, tt, tt, ff, tt, tt, tt, ff, ff, ff] ?_
        refine take_ (i := 4) (N := some 14) (v := ?_) (a' := ?_) #[tt, tt, tt, tt, tt, tt, tt, tt, ff, ff, ff] rfl rfl (take_ofW HT_.out HW_.out (by kernel_rfl)) (fun _ _ _ h => h) (Or.inl ⟨by rfl, ?_⟩) hHeld ?_ ?_
        rotate_left
        ·rintro w' ⟨s0, s1, s2, s3, s4, s5, s6, s7⟩
         go_simp
         with_reducible rfl
        rotate_left
        ·simp only [Act.put, List.setIfInBounds_toArray, List.set_cons_zero, List.set_cons_succ, i64_w, i32_w]
         rfl
        refine take_ (i := 8) (N := some 18) (v := ?_) (a' := ?_) #[tt, tt, tt, tt, tt, tt, tt, tt, tt, ff, ff] rfl rfl (take_ofW HT_.out HW_.out (by kernel_rfl)) (fun _ _ _ h => h) (Or.inl ⟨by rfl, ?_⟩) hHeld ?_ ?_
        rotate_left
        ·rintro w' ⟨s0, s1, s2, s3, s4, s5, s6, s7⟩
         go_simp
         with_reducible rfl
        rotate_left
        ·simp only [Act.put, List.setIfInBounds_toArray, List.set_cons_zero, List.set_cons_succ, i64_w, i32_w]
         rfl
        refine one_ (i := 9) (N := some 19) #[tt, tt, tt, tt, tt, tt, tt, tt, tt, tt, ff] rfl rfl (one_of HT_.out (by kernel_rfl)) (by decide) (fun K hK => ?_)
        (first | refine goes_ Try.func26 (by kernel_rfl) rfl #[.agg #[.string ((rd_T36 l0 (ji3)).f0), .int .i64 ((rd_T36 l0 (ji3)).f1), .bool ((rd_T36 l0 (ji3)).f2), .string ((rd_T36 l0 (ji3)).f3)], .agg #[.string ((rd_T36 l0 x3_1).f0), .int .i64 ((rd_T36 l0 x3_1).f1), .bool ((rd_T36 l0 x3_1).f2), .string ((rd_T36 l0 x3_1).f3)]] (by rfl) rfl rfl (by (try simp only [List.map_toArray, List.map_cons, List.map_nil]); first | done | (simp only [hji3]; rfl) | rfl | (simp only [List.length_drop, List.length_take]; rfl)) ?_ | refine goesV_ Try.func26 (by kernel_rfl) rfl #[.agg #[.string ((rd_T36 l0 (ji3)).f0), .int .i64 ((rd_T36 l0 (ji3)).f1), .bool ((rd_T36 l0 (ji3)).f2), .string ((rd_T36 l0 (ji3)).f3)], .agg #[.string ((rd_T36 l0 x3_1).f0), .int .i64 ((rd_T36 l0 x3_1).f1), .bool ((rd_T36 l0 x3_1).f2), .string ((rd_T36 l0 x3_1).f3)]] (by rfl) rfl rfl rfl (by (try simp only [List.map_toArray, List.map_cons, List.map_nil]); first | done | (simp only [hji3]; rfl) | rfl | (simp only [List.length_drop, List.length_take]; rfl)) ?_)
        with_reducible refine (table_Less.calls k1 ((rd_T36 l0 (ji3)).f0) ((rd_T36 l0 (ji3)).f1) ((rd_T36 l0 (ji3)).f2) ((rd_T36 l0 (ji3)).f3) ((rd_T36 l0 x3_1).f0) ((rd_T36 l0 x3_1).f1) ((rd_T36 l0 x3_1).f2) ((rd_T36 l0 x3_1).f3) false _ A7.out).mono ?_
        rintro e w12 ⟨rfl, hb⟩
        refine ⟨_, rfl, ?_⟩
        have n0_ := Aside0.mk (below_step HB.out hb)
        clear HB
        have HB := n0_
        clear n0_
        (try clear hb)
        (try clear hb2)
        (try clear hk)
        (try clear hi)
        refine hK.out _ _ ⟨((HB.out.cell (World.block_lt_of_cell? w _ hw240_0)).trans hw240_0), ((HB.out.cell (World.block_lt_of_cell? w _ hw240_1)).trans hw240_1), ((HB.out.cell (World.block_lt_of_cell? w _ hw240_2)).trans hw240_2), ((HB.out.cell (World.block_lt_of_cell? w _ hw240_3)).trans hw240_3), ((HB.out.cell (World.block_lt_of_cell? w _ hw241_0)).trans hw241_0), ((HB.out.cell (World.block_lt_of_cell? w _ hw241_1)).trans hw241_1), ((HB.out.cell (World.block_lt_of_cell? w _ hw241_2)).trans hw241_2), ((HB.out.cell (World.block_lt_of_cell? w _ hw241_3)).trans hw241_3)⟩ (fun hHeld => ?_)
        clear hK K
        refine norm_ (a' := ?_) ?_ ?_
        rotate_left
        ·show Act.put _ (some 19) _ = _
         simp only [Act.put, List.setIfInBounds_toArray, List.set_cons_zero, List.set_cons_succ, i64_w, i32_w]
         rfl
        refine pq_ (i := 10) (N := some 20) HT_ #[tt, tt, tt, tt, tt, tt, tt, tt, tt, tt, tt] ?_
        refine done_ (done_of HT_.out (by kernel_rfl)) ?_
        try go_wp2
        go_ret
        exact ⟨by first | rfl | (simp [errW_none, errW_some] <;> rfl) | (simp only [← hji3]; first | rfl | (simp [errW_none, errW_some] <;> rfl)) | (simp [*, errW_none, errW_some] <;> rfl), by repeat (first | (with_reducible first | exact HB.out | apply below_alloc | apply pw_below_drewN | apply below_drew1) | exact HB.out)⟩
      ·rw [if_neg c6] at H
       exact absurd H (by simp)
     ·rw [if_neg c5] at H
      exact absurd H (by simp)
    ·rw [if_neg c4] at H
     exact absurd H (by simp)
   ·rw [if_neg c2] at H
    have c2b0 : decide (x3_1 < (l0.length : Int)) = false := decide_eq_false c2
    clear c2
    obtain rfl := Option.some.inj H
    go_wp2
    go_ret
    exact ⟨by first | rfl | (simp [errW_none, errW_some] <;> rfl) | (simp [*, errW_none, errW_some] <;> rfl), by repeat (first | (with_reducible first | exact HB.out | apply below_alloc | apply pw_below_drewN | apply below_drew1) | exact HB.out)⟩

/-! ### moultlaw12_live: function 24 -/
def moultlaw12_live.f (a0 : ByteArray) (a1 : Int) : Option (ByteArray × Int × Bool × ByteArray) := some (a0, a1, false, (⟨#[120]⟩ : ByteArray))
set_option maxHeartbeats 8000000 in
set_option maxRecDepth 100000 in
theorem moultlaw12_live.calls (a0 : ByteArray) (a1 : Int) (r1 : ByteArray) (r2 : Int) (r3 : Bool) (r4 : ByteArray) (w : World) (h : moultlaw12_live.f a0 a1 = some (r1, r2, r3, r4)) :
  Calls Try.prog 24 #[.string a0, .int .i64 a1] w fun e w' => e = .returned (.agg #[.string r1, .int .i64 r2, .bool r3, .string r4]) ∧ Below w.heap.size w w' := by
 have hu36 := Try.underlying36
 have HB := Aside0.mk (Below.refl w.heap.size w)
 have H : (some (a0, a1, false, (⟨#[120]⟩ : ByteArray))) = some (r1, r2, r3, r4) := h
 clear h
 simp only [Option.some.injEq, Prod.mk.injEq] at H
 obtain ⟨rfl, rfl, rfl, rfl⟩ := H
 go_enter Try.func24, Try.ntmps24
 go_wp2_with (first | ((with_reducible refine gate_dst (N := 4) rfl ?_); refine box_event ?hg (N := 4) ?hd (cs := #[.string (⟨#[]⟩ : ByteArray), .int .i64 0, .bool false, .string (⟨#[]⟩ : ByteArray)]) (t := 36) ?hr ?_; (case hd => rfl); (case hg => rfl); (case hr => first | (go_simp; done) | (go_simp; rfl)); intro gb243 hg w3 hbox hb; have n0_ := Aside0.mk (below_step HB.out hb); have n1_ := Aside0.mk (hbox); have n2_ := Aside0.mk ((by rw [hg]; exact (below_size HB.out) : w.heap.size ≤ gb243)); have n3_ := Aside0.mk ((by rw [hg]; exact (below_size HB.out) : w.heap.size ≤ gb243)); clear HB; have HB := n0_; have BK243 := n1_; have GW243 := n2_; have GE243 := n3_; clear n0_ n1_ n2_ n3_; clear hb hbox hg; have hcz4_0 : w3.cell? ⟨gb243, 0, none⟩ = some (.string (⟨#[]⟩ : ByteArray)) := (blk_cell BK243.out 0).trans rfl; have hcz4_1 : w3.cell? ⟨gb243, 1, none⟩ = some (.int .i64 0) := (blk_cell BK243.out 1).trans rfl; have hcz4_2 : w3.cell? ⟨gb243, 2, none⟩ = some (.bool false) := (blk_cell BK243.out 2).trans rfl; have hcz4_3 : w3.cell? ⟨gb243, 3, none⟩ = some (.string (⟨#[]⟩ : ByteArray)) := (blk_cell BK243.out 3).trans rfl; have hfz4_0 := blk_frozen BK243.out 0; have hfz4_1 := blk_frozen BK243.out 1; have hfz4_2 := blk_frozen BK243.out 2; have hfz4_3 := blk_frozen BK243.out 3))
 refine bodyPost_ret (results_cell_row rfl _ _ gb243 36 #[.string a0, .int .i64 a1, .bool false, .string (⟨#[120]⟩ : ByteArray)] (0, 0) _ rfl (by (with_reducible repeat (first | refine blk_drewN ?_ _ | refine blk_drew ?_ | refine blk_alloc ?_ _)); refine blk_put (cs := #[.string a0, .int .i64 a1, .bool false, .string (⟨#[]⟩ : ByteArray)]) ?_ 3 _ rfl; (with_reducible repeat (first | refine blk_drewN ?_ _ | refine blk_drew ?_ | refine blk_alloc ?_ _)); refine blk_put (cs := #[.string a0, .int .i64 a1, .bool false, .string (⟨#[]⟩ : ByteArray)]) ?_ 2 _ rfl; (with_reducible repeat (first | refine blk_drewN ?_ _ | refine blk_drew ?_ | refine blk_alloc ?_ _)); refine blk_put (cs := #[.string a0, .int .i64 0, .bool false, .string (⟨#[]⟩ : ByteArray)]) ?_ 1 _ rfl; (with_reducible repeat (first | refine blk_drewN ?_ _ | refine blk_drew ?_ | refine blk_alloc ?_ _)); refine blk_put (cs := #[.string (⟨#[]⟩ : ByteArray), .int .i64 0, .bool false, .string (⟨#[]⟩ : ByteArray)]) ?_ 0 _ rfl; (with_reducible repeat (first | refine blk_drewN ?_ _ | refine blk_drew ?_ | refine blk_alloc ?_ _)); exact BK243.out) Try.underlying36 rfl (by kernel_rfl)) rfl ?_
 exact ⟨by first | rfl | (simp [errW_none, errW_some] <;> rfl) | (simp [*, errW_none, errW_some] <;> rfl), by repeat (first | (with_reducible first | exact HB.out | apply below_alloc | apply pw_below_drewN | apply below_drew1 | refine below_set ?_ GE243.out) | exact HB.out)⟩

end Go.Proofs.Ythdoanbadhfhjaa.PAll

-- slimmed
