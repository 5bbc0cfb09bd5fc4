-- Laid by ownprint.py (a program of the session, in wip/tools), out of the translation: Lean checks it.
import Derived.Test.YthdoanbadhfhjaaPAllx0
import Derived.Test.YthdoanbadhfhjaaPAllx1
import Derived.Test.YthdoanbadhfhjaaPAllx3
import Derived.Test.YthdoanbadhfhjaaGv
import Derived.Test.YthdoanbadhfhjaaGa
import Derived.Test.YthdoanbadhfhjaaGw
namespace Go.Proofs.Ythdoanbadhfhjaa.PAll
open Go.RowKit Go.Proofs.YthdoanbadhfhjaaW.PrintWords Go.Proofs.YthdoanbadhfhjaaW.PrintLast Go.Proofs.YthdoanbadhfhjaaW.PrintMore
attribute [local go_sem] max2_int min2_int max_two min_two max_three min_three max_four min_four   -- for this text's walks alone
set_option linter.unusedVariables false
set_option linter.unusedSimpArgs false

attribute [local go_sem high] eqA36
/-! ### api_Entry_25: function 25 -/
def api_Entry_25.f : Nat → List (List (S36)) → Unit → Option ((List (S36)))
 | 0, _, _ => none
 | k + 1, l0, a1 => if (l0.length : Int) = 0 then (some ([] : List (S36))) else (if (l0.length : Int) = 1 then (if 0 < (l0.length : Int) then ((slices_Clone_Entry.f (rd_L4 l0 0)).bind fun t151 => (some t151)) else (none)) else (if 0 ≤ (wrap64 ((l0.length : Int) / 2)) then (if (wrap64 ((l0.length : Int) / 2)) ≤ (l0.length : Int) then ((api_Entry_25.f k (l0.take ((wrap64 ((l0.length : Int) / 2)) : Int).toNat) a1).bind fun t158 => ((api_Entry_25.f k (l0.drop ((wrap64 ((l0.length : Int) / 2)) : Int).toNat) a1).bind fun t165 => ((api_Entry_36.f k t158 t165 a1).bind fun t168 => (some t168)))) else (none)) else (none)))
theorem api_Entry_25.mono_l : ∀ k, (∀ y0 y1, LeO (api_Entry_25.f k y0 y1) (api_Entry_25.f (k + 1) y0 y1))
 | 0 => fun _ _ r h => by simp [api_Entry_25.f] at h
 | k + 1 => by
  have ih0 := api_Entry_25.mono_l k
  ·intro y0 y1
   unfold api_Entry_25.f
   repeat' first
   | (with_reducible exact ih0 _ _)
   | (with_reducible exact api_Entry_36.mono _ _ _ _)
   | (with_reducible exact LeO.refl _)
   | (with_reducible exact LeO.none _)
   | (with_reducible refine LeO.ite ?_ ?_)
   | (with_reducible refine LeO.bind ?_ (fun _ => ?_))
   | exact ih0 _ _
   | exact api_Entry_36.mono _ _ _ _
   | exact LeO.none _
   | refine LeO.ite ?_ ?_
   | refine LeO.bind ?_ (fun _ => ?_)
theorem api_Entry_25.mono : ∀ a0 a1 k, LeO (api_Entry_25.f k a0 a1) (api_Entry_25.f (k + 1) a0 a1) := by
 intro a0 a1 k
 have ih0 := api_Entry_25.mono_l k
 exact ih0 a0 a1
def api_Entry_25.T3 : Bool × List (List Nat × List Nat) := (true, [([], []), ([], []), ([1], [1]), ([0, 2], [0, 2]), ([], []), ([3, 4], [3, 4]), ([], []), ([], []), ([7], [7]), ([6, 8], [6, 8]), ([], []), ([9, 10, 5], [9, 10]), ([], []), ([5, 11, 12, 11], [5, 11, 12]), ([13, 13, 0, 1, 2, 3, 4, 5, 6, 7, 8, 9, 10, 11, 12, 13], [13])])
def api_Entry_25.B3 : List Nat := [0, 0, 2, 7, 0, 31, 0, 0, 128, 448, 0, 2047, 0, 8191, 16383]
theorem api_Entry_25.tab3 : rtab .any (opsOf Try.f25 3) = api_Entry_25.T3 := by kernel_rfl
theorem api_Entry_25.bits3 : waitsOk api_Entry_25.T3.2 api_Entry_25.B3 = true := by kernel_rfl
set_option maxHeartbeats 8000000 in
set_option maxRecDepth 100000 in
theorem api_Entry_25.calls (k : Nat) : ∀ (A0 : Option Addr) (c0 : Nat) (l0 : List (List (S36))) (a1 : Unit) (r : List (S36)) (w : World) (hr0 : Kd.C (Kd.slice 36 k36) w A0 l0.length l0) (hc0 : l0.length ≤ c0) (h : api_Entry_25.f k l0 a1 = some r),
  Calls Try.prog 25 #[.slice A0 l0.length c0, .func (.func 26) #[] #[]] w fun e w' => ∃ v0_ : Value, e = .returned (v0_) ∧ Kd.R k36 36 w' w.heap.size (fun _ => True) v0_ r ∧ Below w.heap.size w w' := by
 induction k using Nat.strongRecOn with
 | _ k ih =>
 intro A0 c0 l0 a1 r w hr0 hc0 h
 cases k with
 | zero => exact absurd h (by simp [api_Entry_25.f])
 | succ k =>
 simp only [api_Entry_25.f] at h
 have HR0 := Aside0.mk hr0
 have HC0 := Aside0.mk hc0
 clear hr0 hc0
 have HB := Aside0.mk (Below.refl w.heap.size w)
 have H : (if (l0.length : Int) = 0 then (some ([] : List (S36))) else (if (l0.length : Int) = 1 then (if 0 < (l0.length : Int) then ((slices_Clone_Entry.f (rd_L4 l0 0)).bind fun t151 => (some t151)) else (none)) else (if 0 ≤ (wrap64 ((l0.length : Int) / 2)) then (if (wrap64 ((l0.length : Int) / 2)) ≤ (l0.length : Int) then ((api_Entry_25.f k (l0.take ((wrap64 ((l0.length : Int) / 2)) : Int).toNat) a1).bind fun t158 => ((api_Entry_25.f k (l0.drop ((wrap64 ((l0.length : Int) / 2)) : Int).toNat) a1).bind fun t165 => ((api_Entry_36.f k t158 t165 a1).bind fun t168 => (some t168)))) else (none)) else (none)))) = some r := h
 clear h
 by_cases c3 : (l0.length : Int) = 0
 ·rw [if_pos c3] at H
  have c3b0 : ((l0.length : Int) == 0) = true := beq_iff_eq.mpr c3
  have c3b1 : ((l0.length : Int) != 0) = false := bne_eq_false_iff_eq.mpr c3
  clear c3
  obtain rfl := Option.some.inj H
  go_enter Try.func25, Try.ntmps25
  go_wp2
  go_ret
  exact ⟨_, by first | rfl | (simp [errW_none, errW_some] <;> rfl) | (simp [*, errW_none, errW_some] <;> rfl), by first | exact Kd.R_nil _ _ _ _ _ | exact Kd.N_nil _ _ _ _ _ | exact Kd.V_nil _ _ _ _ _ | exact Kd.Q_nil _ _ _ _ _ | exact Kd.S_nil _ _ _ _ _, by repeat (first | (with_reducible first | exact HB.out | apply below_alloc | apply pw_below_drewN | apply below_drew1) | exact HB.out)⟩
 ·rw [if_neg c3] at H
  have c3b0 : ((l0.length : Int) == 0) = false := beq_eq_false_iff_ne.mpr c3
  have c3b1 : ((l0.length : Int) != 0) = true := bne_iff_ne.mpr c3
  have c3b2 : ¬ (l0 = []) := fun h_ => c3 (by rw [h_]; rfl)
  by_cases c4 : (l0.length : Int) = 1
  ·rw [if_pos c4] at H
   have c4b0 : ((l0.length : Int) == 1) = true := beq_iff_eq.mpr c4
   have c4b1 : ((l0.length : Int) != 1) = false := bne_eq_false_iff_eq.mpr c4
   clear c4
   by_cases c5 : 0 < (l0.length : Int)
   ·rw [if_pos c5] at H
    have c5b0 : decide (0 < (l0.length : Int)) = true := decide_eq_true c5
    have c5b1 : decide (0 < l0.length) = true := decide_eq_true (by omega)
    clear c5
    replace H := Option.bind_eq_some_iff.mp H
    obtain ⟨t151, A60, H⟩ := H
    replace H : (some t151) = some r := H
    have A6 := Aside0.mk A60
    clear A60
    obtain rfl := Option.some.inj H
    have p150 : 0 ≤ (0 : Int) := (by omega)
    have q150 : 0 < (l0.length : Int) := of_decide_eq_true (by first | (with_reducible assumption) | assumption)
    obtain ⟨ad150, A150_0, c150_0, e150, hx150_0, hl150_0, hi150_0⟩ := at_L4 HR0.out 0 p150 q150
    cases e150
    have qi150 : (0 < l0.length) = True := eq_true (by omega)
    (try rw [show ((0 : Int)).toNat = 0 from rfl] at hx150_0)
    (try rw [Addr.add_zero'] at hx150_0)
    have HR150_0 := Aside0.mk hi150_0
    have HC150_0 := Aside0.mk hl150_0
    clear hi150_0 hl150_0
    replace p150 := eq_true p150
    replace q150 := eq_true q150
    go_enter Try.func25, Try.ntmps25
    go_wp2_with (first | ((with_reducible refine gate_callee (f := 35) rfl ?_); refine goesL_ (some 30) rfl rfl Try.func35 (by kernel_rfl) rfl #[.slice A150_0 (rd_L4 l0 0).length c150_0] rfl (by (try simp only [List.map_toArray, List.map_cons, List.map_nil]); first | done | rfl | (simp only [List.length_drop, List.length_take]; rfl)) ?_; (with_reducible refine (slices_Clone_Entry.calls _ _ (rd_L4 l0 0) t151 _ ?side1 ?side2 A6.out).mono ?_); (case side1 => repeat (first | exact HR150_0.out | (with_reducible refine Kd.C_alloc ?_ _) | (with_reducible refine Kd.C_drewN ?_ _) | (with_reducible refine Kd.C_drew ?_))); (case side2 => exact HC150_0.out); rintro e w7 ⟨v152, rfl, ho0, hb⟩; refine ⟨_, rfl, ?_⟩; have n0_ := Aside0.mk (Kd.R_lower ho0 (below_size HB.out)); have n1_ := Aside0.mk (below_step HB.out hb); clear HB; have HO153 := n0_; have HB := n1_; clear n0_ n1_; (try clear hb); (try clear hb2); (try clear hk); (try clear hi); (try clear ho0)))
    go_ret
    exact ⟨_, by first | rfl | (simp [errW_none, errW_some] <;> rfl) | (simp [*, errW_none, errW_some] <;> rfl), by (with_reducible repeat (first | apply Kd.R_alloc | apply Kd.R_drewN | apply Kd.R_drew)); exact HO153.out, by repeat (first | (with_reducible first | exact HB.out | apply below_alloc | apply pw_below_drewN | apply below_drew1) | exact HB.out)⟩
   ·rw [if_neg c5] at H
    exact absurd H (by simp)
  ·rw [if_neg c4] at H
   have c4b0 : ((l0.length : Int) == 1) = false := beq_eq_false_iff_ne.mpr c4
   have c4b1 : ((l0.length : Int) != 1) = true := bne_iff_ne.mpr c4
   obtain ⟨ji8, hji8⟩ : ∃ j_ : Int, (wrap64 ((l0.length : Int) / 2)) = j_ := ⟨_, rfl⟩
   replace H : (if 0 ≤ (ji8) then (if (ji8) ≤ (l0.length : Int) then ((api_Entry_25.f k (l0.take ((ji8) : Int).toNat) a1).bind fun t158 => ((api_Entry_25.f k (l0.drop ((ji8) : Int).toNat) a1).bind fun t165 => ((api_Entry_36.f k t158 t165 a1).bind fun t168 => (some t168)))) else (none)) else (none)) = some r := by first | (rw [hji8] at H; exact H) | (simp only [hji8] at H ⊢; exact H)
   have hji8w : (IntKind.i64.wrap ((l0.length : Int) / 2)) = ji8 := (i64_w _).trans hji8
   by_cases c9 : 0 ≤ (ji8)
   ·rw [if_pos c9] at H
    have c9b0 := eq_true c9
    have c9b1 : decide (0 ≤ (ji8)) = true := decide_eq_true c9
    clear c9
    by_cases c10 : (ji8) ≤ (l0.length : Int)
    ·rw [if_pos c10] at H
     have c10b0 := eq_true c10
     have c10b1 : decide ((ji8) ≤ (l0.length : Int)) = true := decide_eq_true c10
     clear c10
     obtain ⟨y154, hy154⟩ : ∃ y_ : List (List (S36)), y_ = (l0.take ((ji8) : Int).toNat) := ⟨_, rfl⟩
     replace H : ((api_Entry_25.f k y154 a1).bind fun t158 => ((api_Entry_25.f k (l0.drop ((ji8) : Int).toNat) a1).bind fun t165 => ((api_Entry_36.f k t158 t165 a1).bind fun t168 => (some t168)))) = some r := by first | (rw [hy154]; with_reducible exact H) | (have H2_ := (Option.bind_some _ _).symm.trans H; rw [hy154]; with_reducible exact H2_) | (have H2_ := (Option.bind_some _ _).symm.trans H; with_reducible exact H2_) | with_reducible exact H | (rw [hy154]; exact H) | exact H
     have Ny154 := Aside0.mk hy154
     clear hy154
     replace H := Option.bind_eq_some_iff.mp H
     obtain ⟨t158, A110, H⟩ := H
     replace H : ((api_Entry_25.f k (l0.drop ((ji8) : Int).toNat) a1).bind fun t165 => ((api_Entry_36.f k t158 t165 a1).bind fun t168 => (some t168))) = some r := H
     have A11 := Aside0.mk A110
     clear A110
     have c12b0 := eq_true (of_decide_eq_true (by first | (with_reducible assumption) | assumption) : 0 ≤ (ji8))
     have c13b0 := eq_true (of_decide_eq_true (by first | (with_reducible assumption) | assumption) : (ji8) ≤ (l0.length : Int))
     obtain ⟨y161, hy161⟩ : ∃ y_ : List (List (S36)), y_ = (l0.drop ((ji8) : Int).toNat) := ⟨_, rfl⟩
     replace H : ((api_Entry_25.f k y161 a1).bind fun t165 => ((api_Entry_36.f k t158 t165 a1).bind fun t168 => (some t168))) = some r := by first | (rw [hy161]; with_reducible exact H) | (have H2_ := (Option.bind_some _ _).symm.trans H; rw [hy161]; with_reducible exact H2_) | (have H2_ := (Option.bind_some _ _).symm.trans H; with_reducible exact H2_) | with_reducible exact H | (rw [hy161]; exact H) | exact H
     have Ny161 := Aside0.mk hy161
     clear hy161
     replace H := Option.bind_eq_some_iff.mp H
     obtain ⟨t165, A140, H⟩ := H
     replace H : ((api_Entry_36.f k t158 t165 a1).bind fun t168 => (some t168)) = some r := H
     have A14 := Aside0.mk A140
     clear A140
     replace H := Option.bind_eq_some_iff.mp H
     obtain ⟨t168, A150, H⟩ := H
     replace H : (some t168) = some r := H
     have A15 := Aside0.mk A150
     clear A150
     obtain rfl := Option.some.inj H
     go_enter Try.func25, Try.ntmps25
     try go_wp2
     have n0_ := Aside0.mk (below_drew1 HB.out)
     clear HB
     have HB := n0_
     clear n0_
     have q17 : ((ji8) : Int) ≤ ((l0.length : Int) : Int) := of_decide_eq_true (by first | (with_reducible assumption) | assumption)
     obtain ⟨i017, hi017, _, hsz17, _⟩ := info_parts info27
     have hroom17 : l0.length ≤ c0 := HC0.out
     have hC17 : Kd.C (Kd.slice 36 k36) _ A0 l0.length l0 := HR0.out
     have hcut17 := cut_to (P := Try.prog) 22 27 .i64 Try.underlying22 hi017 A0 l0.length c0 (ji8) (of_decide_eq_true (by first | (with_reducible assumption) | assumption)) q17 hroom17
     have hr17 := Kd.C_take (m := ((ji8) : Int).toNat) hC17 (by omega)
     have hy17 : y154.length = ((ji8) : Int).toNat := (by rw [Ny154.out, List.length_take]; omega)
     rw [← Ny154.out] at hr17
     rw [← hy17] at hcut17
     have HR157 := Aside0.mk hr17
     have HC157 := Aside0.mk (show y154.length ≤ c0 from by omega)
     clear hr17 hC17 hroom17 hi017 hsz17
     have KY17 := Aside0.mk hy17
     clear hy17
     replace q17 := eq_true q17
     have q18 : ((ji8) : Int) ≤ ((l0.length : Int) : Int) := of_decide_eq_true (by first | (with_reducible assumption) | assumption)
     obtain ⟨i018, hi018, _, hsz18, _⟩ := info_parts info27
     have hroom18 : l0.length ≤ c0 := HC0.out
     have hC18 : Kd.C (Kd.slice 36 k36) _ A0 l0.length l0 := HR0.out
     have q018 : (0 : Int) ≤ ((ji8) : Int) := of_decide_eq_true (by first | (with_reducible assumption) | assumption)
     have hcut18 := cut_from (P := Try.prog) 22 27 .i64 Try.underlying22 hi018 1 hsz18 A0 l0.length c0 (ji8) q018 q18
     have hr18 := Kd.C_drop (m := ((ji8) : Int).toNat) (c := c0) hC18 (by omega) hroom18
     obtain ⟨A18, hA18⟩ : ∃ A1, A1 = (if c0 = ((ji8) : Int).toNat then A0 else (A0 : Option Addr).map (·.add (((ji8) : Int).toNat * 1))) := ⟨_, rfl⟩
     obtain ⟨c18, hc18⟩ : ∃ c1, c1 = c0 - ((ji8) : Int).toNat := ⟨_, rfl⟩
     have hy18 : y161.length = l0.length - ((ji8) : Int).toNat := (by rw [Ny161.out, List.length_drop] <;> omega)
     rw [show (l0).drop ((ji8) : Int).toNat = y161 from Ny161.out.symm] at hr18
     replace hr18 : Kd.C (Kd.slice 36 k36) _ A18 y161.length y161 := (by rw [hA18]; exact hr18)
     rw [← hy18, ← hA18, ← hc18] at hcut18
     have HR164 := Aside0.mk hr18
     have HC164 := Aside0.mk (show y161.length ≤ c18 from by rw [hy18, hc18]; exact Nat.sub_le_sub_right hroom18 _)
     clear hr18 hC18 hroom18 hi018 hsz18 hc18
     have KY18 := Aside0.mk hy18
     have KA18 := Aside0.mk hA18
     clear hy18 hA18
     replace q18 := eq_true q18
     refine start_ (n := 15) (S := fun w' => True) (ds := []) #[ff, ff, ff, ff, ff, ff, ff, ff, ff, ff, ff, ff, ff, ff, ff] (by kernel_rfl) rfl rfl trivial (fun hHeld => ?_); refine with_tabW api_Entry_25.tab3 api_Entry_25.bits3 (fun HT_ HW_ => ?_)
     generalize w.drew = w16 at HB HR157 HR164 hHeld ⊢
     refine pq_ (i := 0) (N := some 9) HT_ #[tt, ff, ff, ff, ff, ff, ff, ff, ff, ff, ff, ff, ff, ff, ff] ?_
     refine pq_ (i := 1) (N := some 10) HT_ #[tt, tt, ff, ff, ff, ff, ff, ff, ff, ff, ff, ff, ff, ff, ff] ?_
     refine pq_ (i := 2) (N := some 11) HT_ #[tt, tt, tt, ff, ff, ff, ff, ff, ff, ff, ff, ff, ff, ff, ff] ?_
     refine pq_ (i := 3) (N := some 12) HT_ #[tt, tt, tt, tt, ff, ff, ff, ff, ff, ff, ff, ff, ff, ff, ff] ?_
     refine pq_ (i := 4) (N := some 13) HT_ #[tt, tt, tt, tt, tt, ff, ff, ff, ff, ff, ff, ff, ff, ff, ff] ?_
     refine pq_ (i := 6) (N := some 15) HT_ #[tt, tt, tt, tt, tt, ff, tt, ff, ff, ff, ff, ff, ff, ff, ff] ?_
     refine pq_ (i := 7) (N := some 16) HT_ #[tt, tt, tt, tt, tt, ff, tt, tt, ff, ff, ff, ff, ff, ff, ff] ?_
     refine pq_ (i := 8) (N := some 17) HT_ #[tt, tt, tt, tt, tt, ff, tt, tt, tt, ff, ff, ff, ff, ff, ff] ?_
     refine pq_ (i := 9) (N := some 18) HT_ #[tt, tt, tt, tt, tt, ff, tt, tt, tt, tt, ff, ff, ff, ff, ff] ?_
     refine pq_ (i := 10) (N := some 19) HT_ #[tt, tt, tt, tt, tt, ff, tt, tt, tt, tt, tt, ff, ff, ff, ff] ?_
     refine pq_ (i := 12) (N := some 21) HT_ #[tt, tt, tt, tt, tt, ff, tt, tt, tt, tt, tt, ff, tt, ff, ff] ?_
     refine one_ (i := 5) (N := some 14) #[tt, tt, tt, tt, tt, tt, tt, tt, tt, tt, tt, ff, tt, ff, ff] rfl rfl (one_of HT_.out (by kernel_rfl)) (by decide) (fun K hK => ?_)
     refine goes_ Try.func25 (by kernel_rfl) rfl #[.slice A0 y154.length c0, .func (.func 26) #[] #[]] (by rfl) rfl rfl (by (try simp only [List.map_toArray, List.map_cons, List.map_nil]); first | done | rfl | (simp only [List.length_drop, List.length_take]; rfl)) ?_
     with_reducible refine (ih k (by omega) _ _ y154 a1 t158 _ ?side1 ?side2 A11.out).mono ?_
     (case side1 => repeat (first | exact (Kd.C_below HR157.out HB.out) | (with_reducible refine Kd.C_alloc ?_ _) | (with_reducible refine Kd.C_drewN ?_ _) | (with_reducible refine Kd.C_drew ?_)))
     (case side2 => exact HC157.out)
     rintro e w19 ⟨v159, rfl, ho0, hb⟩
     refine ⟨_, rfl, ?_⟩
     have n0_ := Aside0.mk (Kd.R_lower ho0 (below_size HB.out))
     have n1_ := Aside0.mk (below_step HB.out hb)
     clear HB
     have HO160 := n0_
     have HB := n1_
     clear n0_ n1_
     (try clear hb)
     (try clear hb2)
     (try clear hk)
     (try clear hi)
     (try clear ho0)
     refine hK.out _ _ trivial (fun hHeld => ?_)
     clear hK K
     refine norm_ (a' := ?_) ?_ ?_
     rotate_left
     ·show Act.put _ (some 14) _ = _
      simp only [Act.put, List.setIfInBounds_toArray, List.set_cons_zero, List.set_cons_succ, i64_w, i32_w]
      rfl
     refine one_ (i := 11) (N := some 20) #[tt, tt, tt, tt, tt, tt, tt, tt, tt, tt, tt, tt, tt, ff, ff] rfl rfl (one_of HT_.out (by kernel_rfl)) (by decide) (fun K hK => ?_)
     refine goes_ Try.func25 (by kernel_rfl) rfl #[.slice A18 y161.length c18, .func (.func 26) #[] #[]] (by rfl) rfl rfl (by (try simp only [List.map_toArray, List.map_cons, List.map_nil]); first | done | rfl | (simp only [List.length_drop, List.length_take]; rfl)) ?_
     with_reducible refine (ih k (by omega) _ _ y161 a1 t165 _ ?side1 ?side2 A14.out).mono ?_
     (case side1 => repeat (first | exact (Kd.C_below HR164.out HB.out) | (with_reducible refine Kd.C_alloc ?_ _) | (with_reducible refine Kd.C_drewN ?_ _) | (with_reducible refine Kd.C_drew ?_)))
     (case side2 => exact HC164.out)
     rintro e w20 ⟨v166, rfl, ho0, hb⟩
     refine ⟨_, rfl, ?_⟩
     have n0_ := Aside0.mk (Kd.R_elder' HO160.out (Kd.R_base ho0) hb)
     have n1_ := Aside0.mk (Kd.R_lower (Kd.R_new' ho0 (Kd.R_lt HO160.out)) (below_size HB.out))
     have n2_ := Aside0.mk (below_step HB.out hb)
     clear HO160
     clear HB
     have HO160 := n0_
     have HO167 := n1_
     have HB := n2_
     clear n0_ n1_ n2_
     (try clear hb)
     (try clear hb2)
     (try clear hk)
     (try clear hi)
     (try clear ho0)
     obtain ⟨Ao21, co21, eo21⟩ := Kd.R_slice HO160.out
     (first | subst eo21 | (injection eo21 with f1_ f2_ f3_; have f4_ := f1_.symm; have f5_ := f3_.symm; clear f1_ f2_ f3_; subst f4_; subst f5_))
     obtain ⟨Ao22, co22, eo22⟩ := Kd.R_slice HO167.out
     (first | subst eo22 | (injection eo22 with f1_ f2_ f3_; have f4_ := f1_.symm; have f5_ := f3_.symm; clear f1_ f2_ f3_; subst f4_; subst f5_))
     refine hK.out _ _ trivial (fun hHeld => ?_)
     clear hK K
     refine norm_ (a' := ?_) ?_ ?_
     rotate_left
     ·show Act.put _ (some 20) _ = _
      simp only [Act.put, List.setIfInBounds_toArray, List.set_cons_zero, List.set_cons_succ, i64_w, i32_w]
      rfl
     refine one_ (i := 13) (N := some 22) #[tt, tt, tt, tt, tt, tt, tt, tt, tt, tt, tt, tt, tt, tt, ff] rfl rfl (one_of HT_.out (by kernel_rfl)) (by decide) (fun K hK => ?_)
     refine goes_ Try.func36 (by kernel_rfl) rfl #[.slice Ao21 t158.length co21, .slice Ao22 t165.length co22, .func (.func 26) #[] #[]] (by rfl) rfl rfl (by (try simp only [List.map_toArray, List.map_cons, List.map_nil]); first | done | rfl | (simp only [List.length_drop, List.length_take]; rfl)) ?_
     with_reducible refine (api_Entry_36.calls k (fun k_ => some k_ = (.slice Ao21 t158.length co21 : Value).ownBlock) _ _ t158 (fun k_ => some k_ = (.slice Ao22 t165.length co22 : Value).ownBlock) _ _ t165 a1 t168 _ ?side1 ?side2 A15.out).mono ?_
     (case side1 => exact Kd.R_V (Kd.R_tight rfl (HO160.out)))
     (case side2 => exact Kd.R_V (Kd.R_tight rfl (HO167.out)))
     rintro e w23 ⟨v169, rfl, ho0, hb⟩
     refine ⟨_, rfl, ?_⟩
     have n0_ := Aside0.mk (Kd.R_elder' HO160.out (Kd.R_base ho0) hb)
     have n1_ := Aside0.mk (Kd.R_elder' HO167.out (Kd.R_base ho0) hb)
     have n2_ := Aside0.mk (Kd.R_lower (Kd.R_new' (Kd.R_new' (Kd.R_mono (ok' := fun k_ => True) ho0 (fun _ hk_ => trivial)) (Kd.R_lt HO160.out)) (Kd.R_lt HO167.out)) (below_size HB.out))
     have n3_ := Aside0.mk (below_step HB.out hb)
     clear HO160
     clear HO167
     clear HB
     have HO160 := n0_
     have HO167 := n1_
     have HO170 := n2_
     have HB := n3_
     clear n0_ n1_ n2_ n3_
     (try clear hb)
     (try clear hb2)
     (try clear hk)
     (try clear hi)
     (try clear ho0)
     refine hK.out _ _ trivial (fun hHeld => ?_)
     clear hK K
     refine norm_ (a' := ?_) ?_ ?_
     rotate_left
     ·show Act.put _ (some 22) _ = _
      simp only [Act.put, List.setIfInBounds_toArray, List.set_cons_zero, List.set_cons_succ, i64_w, i32_w]
      rfl
     refine pq_ (i := 14) (N := some 4) HT_ #[tt, tt, tt, tt, tt, tt, tt, tt, tt, tt, tt, tt, tt, tt, tt] ?_
     refine done_ (done_of HT_.out (by kernel_rfl)) ?_
     try go_wp2
     go_ret
     exact ⟨_, by first | rfl | (simp [errW_none, errW_some] <;> rfl) | (simp only [← hji8]; first | rfl | (simp [errW_none, errW_some] <;> rfl)) | (simp [*, errW_none, errW_some] <;> rfl), by (with_reducible repeat (first | apply Kd.R_alloc | apply Kd.R_drewN | apply Kd.R_drew)); exact Kd.R_mono HO170.out (fun _ hk => trivial), by repeat (first | (with_reducible first | exact HB.out | apply below_alloc | apply pw_below_drewN | apply below_drew1) | exact HB.out)⟩
    ·rw [if_neg c10] at H
     exact absurd H (by simp)
   ·rw [if_neg c9] at H
    exact absurd H (by simp)

/-! ### merge_Merge: function 11 -/
def merge_Merge.f (k : Nat) (l0 : List (List (S36))) : Option ((List (S36))) := (api_Entry_25.f k l0 ()).bind fun t171 => (some t171)
theorem merge_Merge.mono : ∀ a0 k, LeO (merge_Merge.f k a0) (merge_Merge.f (k + 1) a0) := by
 intro a0 k
 unfold merge_Merge.f
 repeat' first
   | (with_reducible exact api_Entry_25.mono _ _ _)
   | (with_reducible exact LeO.refl _)
   | (with_reducible exact LeO.none _)
   | (with_reducible refine LeO.ite ?_ ?_)
   | (with_reducible refine LeO.bind ?_ (fun _ => ?_))
   | exact api_Entry_25.mono _ _ _
   | exact LeO.none _
   | refine LeO.ite ?_ ?_
   | refine LeO.bind ?_ (fun _ => ?_)
set_option maxHeartbeats 8000000 in
set_option maxRecDepth 100000 in
theorem merge_Merge.calls (k : Nat) (A0 : Option Addr) (c0 : Nat) (l0 : List (List (S36))) (r : List (S36)) (w : World) (hr0 : Kd.C (Kd.slice 36 k36) w A0 l0.length l0) (hc0 : l0.length ≤ c0) (h : merge_Merge.f k l0 = some r) :
  Calls Try.prog 11 #[.slice A0 l0.length c0] w fun e w' => ∃ v0_ : Value, e = .returned (v0_) ∧ Kd.R k36 36 w' w.heap.size (fun _ => True) v0_ r ∧ Below w.heap.size w w' := by
 have HR0 := Aside0.mk hr0
 have HC0 := Aside0.mk hc0
 clear hr0 hc0
 have HB := Aside0.mk (Below.refl w.heap.size w)
 have H : ((api_Entry_25.f k l0 ()).bind fun t171 => (some t171)) = some r := h
 clear h
 replace H := Option.bind_eq_some_iff.mp H
 obtain ⟨t171, A20, H⟩ := H
 replace H : (some t171) = some r := H
 have A2 := Aside0.mk A20
 clear A20
 obtain rfl := Option.some.inj H
 go_enter Try.func11, Try.ntmps11
 go_wp2_with (first | ((with_reducible refine gate_callee (f := 25) rfl ?_); refine goesL_ (some 4) rfl rfl Try.func25 (by kernel_rfl) rfl #[.slice A0 l0.length c0, .func (.func 26) #[] #[]] rfl (by (try simp only [List.map_toArray, List.map_cons, List.map_nil]); first | done | rfl | (simp only [List.length_drop, List.length_take]; rfl)) ?_; (with_reducible refine (api_Entry_25.calls k _ _ l0 () t171 _ ?side1 ?side2 A2.out).mono ?_); (case side1 => repeat (first | exact HR0.out | (with_reducible refine Kd.C_alloc ?_ _) | (with_reducible refine Kd.C_drewN ?_ _) | (with_reducible refine Kd.C_drew ?_))); (case side2 => exact HC0.out); rintro e w3 ⟨v172, rfl, ho0, hb⟩; refine ⟨_, rfl, ?_⟩; have n0_ := Aside0.mk (Kd.R_lower ho0 (below_size HB.out)); have n1_ := Aside0.mk (below_step HB.out hb); clear HB; have HO173 := n0_; have HB := n1_; clear n0_ n1_; (try clear hb); (try clear hb2); (try clear hk); (try clear hi); (try clear ho0)))
 go_ret
 exact ⟨_, by first | rfl | (simp [errW_none, errW_some] <;> rfl) | (simp [*, errW_none, errW_some] <;> rfl), by (with_reducible repeat (first | apply Kd.R_alloc | apply Kd.R_drewN | apply Kd.R_drew)); exact HO173.out, by repeat (first | (with_reducible first | exact HB.out | apply below_alloc | apply pw_below_drewN | apply below_drew1) | exact HB.out)⟩

/-! ### moultlaw12_same: function 13 -/
def moultlaw12_same.l0 : Nat → List (S36) → List (S36) → Int → Option (Bool)
 | 0, _, _, _ => none
 | k + 1, x0, x1, x5 => if x5 < (x0.length : Int) then (if 0 ≤ x5 then (if x5 < (x1.length : Int) then (if (!((((rd_T36 x0 x5).f0).toList) == (((rd_T36 x1 x5).f0).toList)) || (!(((rd_T36 x0 x5).f1) == ((rd_T36 x1 x5).f1)) || (!(((rd_T36 x0 x5).f2) == ((rd_T36 x1 x5).f2)) || (!((((rd_T36 x0 x5).f3).toList) == (((rd_T36 x1 x5).f3).toList)))))) = true then (some false) else (moultlaw12_same.l0 k x0 x1 (wrap64 (x5 + 1)))) else (none)) else (none)) else (some true)
def moultlaw12_same.f (k : Nat) (l0 : List (S36)) (l1 : List (S36)) : Option (Bool) := if (l0.length : Int) = (l1.length : Int) then (moultlaw12_same.l0 k l0 l1 0) else (some false)
theorem moultlaw12_same.mono_l : ∀ k, (∀ y0 y1 y2, LeO (moultlaw12_same.l0 k y0 y1 y2) (moultlaw12_same.l0 (k + 1) y0 y1 y2))
 | 0 => fun _ _ _ r h => by simp [moultlaw12_same.l0] at h
 | k + 1 => by
  have ih0 := moultlaw12_same.mono_l k
  ·intro y0 y1 y2
   unfold moultlaw12_same.l0
   repeat' first
   | (with_reducible exact ih0 _ _ _)
   | (with_reducible exact LeO.refl _)
   | (with_reducible exact LeO.none _)
   | (with_reducible refine LeO.ite ?_ ?_)
   | (with_reducible refine LeO.bind ?_ (fun _ => ?_))
   | exact ih0 _ _ _
   | exact LeO.none _
   | refine LeO.ite ?_ ?_
   | refine LeO.bind ?_ (fun _ => ?_)
theorem moultlaw12_same.mono : ∀ a0 a1 k, LeO (moultlaw12_same.f k a0 a1) (moultlaw12_same.f (k + 1) a0 a1) := by
 intro a0 a1 k
 have ih0 := moultlaw12_same.mono_l k
 unfold moultlaw12_same.f
 repeat' first
   | (with_reducible exact ih0 _ _ _)
   | (with_reducible exact LeO.refl _)
   | (with_reducible exact LeO.none _)
   | (with_reducible refine LeO.ite ?_ ?_)
   | (with_reducible refine LeO.bind ?_ (fun _ => ?_))
   | exact ih0 _ _ _
   | exact LeO.none _
   | refine LeO.ite ?_ ?_
   | refine LeO.bind ?_ (fun _ => ?_)
set_option maxHeartbeats 8000000 in
set_option maxRecDepth 100000 in
theorem moultlaw12_same.calls (k : Nat) (A0 : Option Addr) (c0 : Nat) (l0 : List (S36)) (A1 : Option Addr) (c1 : Nat) (l1 : List (S36)) (r : Bool) (w : World) (hr0 : Kd.C k36 w A0 l0.length l0) (hc0 : l0.length ≤ c0) (hr1 : Kd.C k36 w A1 l1.length l1) (hc1 : l1.length ≤ c1) (h : moultlaw12_same.f k l0 l1 = some r) :
  Calls Try.prog 13 #[.slice A0 l0.length c0, .slice A1 l1.length c1] w fun e w' => e = .returned (.bool r) ∧ Drawn0 w w' := by
 have hu36 := Try.underlying36
 have HR0 := Aside0.mk hr0
 have HC0 := Aside0.mk hc0
 clear hr0 hc0
 have HR1 := Aside0.mk hr1
 have HC1 := Aside0.mk hc1
 clear hr1 hc1
 have H : (if (l0.length : Int) = (l1.length : Int) then (moultlaw12_same.l0 k l0 l1 0) else (some false)) = some r := h
 clear h
 by_cases c3 : (l0.length : Int) = (l1.length : Int)
 ·rw [if_pos c3] at H
  have c3b0 : ((l0.length : Int) == (l1.length : Int)) = true := beq_iff_eq.mpr c3
  have c3b1 : ((l0.length : Int) != (l1.length : Int)) = false := bne_eq_false_iff_eq.mpr c3
  have c3b2 : (l0.length == l1.length) = true := by first | simpa using c3 | (simp at c3 ⊢; omega)
  clear c3
  have H' := Aside0.mk H
  clear H
  go_enter Try.func13, Try.ntmps13
  go_wp2
  repeat (go_quiet (fail); try go_wp2)
  go_loopg [5] k (fun kq v5 w' => ∃ (x5_1 : Int), v5 = .int .i64 x5_1 ∧ Aside0 (moultlaw12_same.l0 kq l0 l1 x5_1 = some r) ∧ Aside0 (kq ≤ k) ∧ Drawn0 w w')
  case atStart => exact ⟨(0), (by first | rfl | (simp; done) | (simp [*]; done)), H', ⟨Nat.le_refl _⟩, by repeat (first | exact Drawn0.refl _ | apply Drawn0.step)⟩
  case round =>
   clear H'
   try clear c1
   try clear p2
   try clear c3
   try clear c3b0
   try clear c3b1
   try clear c3b2
   obtain ⟨x5_1, rfl, HA, HK1, ⟨m1, rfl⟩⟩ := hrel
   cases gk with
   | zero => exact absurd HA.out (by simp [moultlaw12_same.l0])
   | succ k1 =>
    have H := HA.out
    clear HA
    simp only [moultlaw12_same.l0] at H
    by_cases c4 : x5_1 < (l0.length : Int)
    ·rw [if_pos c4] at H
     have c4b0 : decide (x5_1 < (l0.length : Int)) = true := decide_eq_true c4
     clear c4
     by_cases c5 : 0 ≤ x5_1
     ·rw [if_pos c5] at H
      have c5b0 : decide (0 ≤ x5_1) = true := decide_eq_true c5
      clear c5
      by_cases c6 : x5_1 < (l1.length : Int)
      ·rw [if_pos c6] at H
       have c6b0 : decide (x5_1 < (l1.length : Int)) = true := decide_eq_true c6
       clear c6
       by_cases c7 : (!((((rd_T36 l0 x5_1).f0).toList) == (((rd_T36 l1 x5_1).f0).toList)) || (!(((rd_T36 l0 x5_1).f1) == ((rd_T36 l1 x5_1).f1)) || (!(((rd_T36 l0 x5_1).f2) == ((rd_T36 l1 x5_1).f2)) || (!((((rd_T36 l0 x5_1).f3).toList) == (((rd_T36 l1 x5_1).f3).toList)))))) = true
       ·rw [if_pos c7] at H
        have c7b0 : (!((((rd_T36 l0 x5_1).f0).toList) == (((rd_T36 l1 x5_1).f0).toList)) || (!(((rd_T36 l0 x5_1).f1) == ((rd_T36 l1 x5_1).f1)) || (!(((rd_T36 l0 x5_1).f2) == ((rd_T36 l1 x5_1).f2)) || (!((((rd_T36 l0 x5_1).f3).toList) == (((rd_T36 l1 x5_1).f3).toList)))))) = true := c7
        (try (have c7p : (¬ (((rd_T36 l0 x5_1).f0).toList) = (((rd_T36 l1 x5_1).f0).toList) ∨ (¬ ((rd_T36 l0 x5_1).f1) = ((rd_T36 l1 x5_1).f1) ∨ (¬ ((rd_T36 l0 x5_1).f2) = ((rd_T36 l1 x5_1).f2) ∨ ¬ (((rd_T36 l0 x5_1).f3).toList) = (((rd_T36 l1 x5_1).f3).toList)))) = True := eq_true (by simpa using c7)))
        clear c7
        obtain rfl := Option.some.inj H
        have p174 : 0 ≤ (x5_1 : Int) := of_decide_eq_true (by first | (with_reducible assumption) | assumption)
        have q174 : x5_1 < (l0.length : Int) := of_decide_eq_true (by first | (with_reducible assumption) | assumption)
        obtain ⟨ad174, e174, hx174_0, hx174_1, hx174_2, hx174_3⟩ := at_T36 HR0.out x5_1 p174 q174
        cases e174
        replace p174 := eq_true p174
        replace q174 := eq_true q174
        have p175 : 0 ≤ (x5_1 : Int) := of_decide_eq_true (by first | (with_reducible assumption) | assumption)
        have q175 : x5_1 < (l1.length : Int) := of_decide_eq_true (by first | (with_reducible assumption) | assumption)
        obtain ⟨ad175, e175, hx175_0, hx175_1, hx175_2, hx175_3⟩ := at_T36 HR1.out x5_1 p175 q175
        cases e175
        replace p175 := eq_true p175
        replace q175 := eq_true q175
        go_wp2
        repeat (go_quiet (fail); try go_wp2)
        go_ret
        exact ⟨by first | rfl | (simp; done) | (simp [*]; done), by repeat (first | exact Drawn0.refl _ | apply Drawn0.step)⟩
       ·rw [if_neg c7] at H
        have c7b0 : (!((((rd_T36 l0 x5_1).f0).toList) == (((rd_T36 l1 x5_1).f0).toList)) || (!(((rd_T36 l0 x5_1).f1) == ((rd_T36 l1 x5_1).f1)) || (!(((rd_T36 l0 x5_1).f2) == ((rd_T36 l1 x5_1).f2)) || (!((((rd_T36 l0 x5_1).f3).toList) == (((rd_T36 l1 x5_1).f3).toList)))))) = false := by simpa using c7
        (try (have c7p : (¬ (((rd_T36 l0 x5_1).f0).toList) = (((rd_T36 l1 x5_1).f0).toList) ∨ (¬ ((rd_T36 l0 x5_1).f1) = ((rd_T36 l1 x5_1).f1) ∨ (¬ ((rd_T36 l0 x5_1).f2) = ((rd_T36 l1 x5_1).f2) ∨ ¬ (((rd_T36 l0 x5_1).f3).toList) = (((rd_T36 l1 x5_1).f3).toList)))) = False := eq_false (by simpa using c7)))
        clear c7
        have H' := Aside0.mk H
        clear H
        have p174 : 0 ≤ (x5_1 : Int) := of_decide_eq_true (by first | (with_reducible assumption) | assumption)
        have q174 : x5_1 < (l0.length : Int) := of_decide_eq_true (by first | (with_reducible assumption) | assumption)
        obtain ⟨ad174, e174, hx174_0, hx174_1, hx174_2, hx174_3⟩ := at_T36 HR0.out x5_1 p174 q174
        cases e174
        replace p174 := eq_true p174
        replace q174 := eq_true q174
        have p175 : 0 ≤ (x5_1 : Int) := of_decide_eq_true (by first | (with_reducible assumption) | assumption)
        have q175 : x5_1 < (l1.length : Int) := of_decide_eq_true (by first | (with_reducible assumption) | assumption)
        obtain ⟨ad175, e175, hx175_0, hx175_1, hx175_2, hx175_3⟩ := at_T36 HR1.out x5_1 p175 q175
        cases e175
        replace p175 := eq_true p175
        replace q175 := eq_true q175
        go_wp2
        repeat (go_quiet (fail); try go_wp2)
        go_roundg k1
        case measure => have := HK1.out; omega
        case rel => exact ⟨(wrap64 (x5_1 + 1)), (by first | rfl | (simp; done) | (simp [*]; done)), H', ⟨by have := HK1.out; omega⟩, by repeat (first | exact Drawn0.refl _ | apply Drawn0.step)⟩
      ·rw [if_neg c6] at H
       exact absurd H (by simp)
     ·rw [if_neg c5] at H
      exact absurd H (by simp)
    ·rw [if_neg c4] at H
     have c4b0 : decide (x5_1 < (l0.length : Int)) = false := decide_eq_false c4
     clear c4
     obtain rfl := Option.some.inj H
     go_wp2
     repeat (go_quiet (fail); try go_wp2)
     go_ret
     exact ⟨by first | rfl | (simp; done) | (simp [*]; done), by repeat (first | exact Drawn0.refl _ | apply Drawn0.step)⟩
 ·rw [if_neg c3] at H
  have c3b0 : ((l0.length : Int) == (l1.length : Int)) = false := beq_eq_false_iff_ne.mpr c3
  have c3b1 : ((l0.length : Int) != (l1.length : Int)) = true := bne_iff_ne.mpr c3
  have c3b2 : (l0.length == l1.length) = false := by first | simpa using c3 | (simp at c3 ⊢; omega)
  obtain rfl := Option.some.inj H
  go_enter Try.func13, Try.ntmps13
  go_wp2
  repeat (go_quiet (fail); try go_wp2)
  go_ret
  exact ⟨by first | rfl | (simp; done) | (simp [*]; done), by repeat (first | exact Drawn0.refl _ | apply Drawn0.step)⟩

end Go.Proofs.Ythdoanbadhfhjaa.PAll

-- slimmed
