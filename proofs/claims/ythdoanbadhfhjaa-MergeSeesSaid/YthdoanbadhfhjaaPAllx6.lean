-- Laid by ownprint.py (a program of the session, in wip/tools), out of the translation: Lean checks it.
import Derived.Test.YthdoanbadhfhjaaPAllx0
import Derived.Test.YthdoanbadhfhjaaPAllx5
import Derived.Test.YthdoanbadhfhjaaGv
import Derived.Test.YthdoanbadhfhjaaGa
import Derived.Test.YthdoanbadhfhjaaGb
namespace Go.Proofs.Ythdoanbadhfhjaa.PAll
open Go.RowKit Go.Proofs.YthdoanbadhfhjaaW.PrintWords Go.Proofs.YthdoanbadhfhjaaW.PrintLast Go.Proofs.YthdoanbadhfhjaaW.PrintMore
attribute [local go_sem] max2_int min2_int max_two min_two max_three min_three max_four min_four   -- for this text's walks alone
set_option linter.unusedVariables false
set_option linter.unusedSimpArgs false

-- GIVEN: function 29 (merge_newest)

/-! ### merge_Visible: function 14 -/
def merge_Visible.l0 : Nat → Int → List (S36) → List (List (S36)) → Int → Int → Option ((List (S36)))
 | 0, _, _, _, _, _ => none
 | k + 1, x1, x5, x10, x11, x12 => if x12 < x11 then (if 0 ≤ x12 then (if x12 < (x10.length : Int) then ((merge_newest.f (rd_L4 x10 x12) x1).bind fun t208 => (if t208 ≥ 0 then (if 0 ≤ t208 then (if t208 < ((rd_L4 x10 x12).length : Int) then (if ((rd_T36 (rd_L4 x10 x12) t208).f2 = true) then (merge_Visible.l0 k x1 x5 x10 x11 (wrap64 (x12 + 1))) else (if x5.length < 2932031007402 then (merge_Visible.l0 k x1 (x5 ++ [(⟨(rd_T36 (rd_L4 x10 x12) t208).f0, (rd_T36 (rd_L4 x10 x12) t208).f1, (rd_T36 (rd_L4 x10 x12) t208).f2, (rd_T36 (rd_L4 x10 x12) t208).f3⟩ : S36)]) x10 x11 (wrap64 (x12 + 1))) else (none))) else (none)) else (none)) else (merge_Visible.l0 k x1 x5 x10 x11 (wrap64 (x12 + 1))))) else (none)) else (none)) else (some x5)
def merge_Visible.f (k : Nat) (l0 : List (S36)) (a1 : Int) : Option ((List (S36))) := (merge_groups.f k l0).bind fun t204 => (merge_Visible.l0 k a1 ([] : List (S36)) t204 (t204.length : Int) 0)
theorem merge_Visible.mono_l : ∀ k, (∀ y0 y1 y2 y3 y4, LeO (merge_Visible.l0 k y0 y1 y2 y3 y4) (merge_Visible.l0 (k + 1) y0 y1 y2 y3 y4))
 | 0 => fun _ _ _ _ _ r h => by simp [merge_Visible.l0] at h
 | k + 1 => by
  have ih0 := merge_Visible.mono_l k
  ·intro y0 y1 y2 y3 y4
   unfold merge_Visible.l0
   repeat' first
   | (with_reducible exact ih0 _ _ _ _ _)
   | (with_reducible exact merge_groups.mono _ _)
   | (with_reducible exact LeO.refl _)
   | (with_reducible exact LeO.none _)
   | (with_reducible refine LeO.ite ?_ ?_)
   | (with_reducible refine LeO.bind ?_ (fun _ => ?_))
   | exact ih0 _ _ _ _ _
   | exact merge_groups.mono _ _
   | exact LeO.none _
   | refine LeO.ite ?_ ?_
   | refine LeO.bind ?_ (fun _ => ?_)
theorem merge_Visible.mono : ∀ a0 a1 k, LeO (merge_Visible.f k a0 a1) (merge_Visible.f (k + 1) a0 a1) := by
 intro a0 a1 k
 have ih0 := merge_Visible.mono_l k
 unfold merge_Visible.f
 repeat' first
   | (with_reducible exact ih0 _ _ _ _ _)
   | (with_reducible exact merge_groups.mono _ _)
   | (with_reducible exact LeO.refl _)
   | (with_reducible exact LeO.none _)
   | (with_reducible refine LeO.ite ?_ ?_)
   | (with_reducible refine LeO.bind ?_ (fun _ => ?_))
   | exact ih0 _ _ _ _ _
   | exact merge_groups.mono _ _
   | exact LeO.none _
   | refine LeO.ite ?_ ?_
   | refine LeO.bind ?_ (fun _ => ?_)
set_option maxHeartbeats 8000000 in
set_option maxRecDepth 100000 in
theorem merge_Visible.calls (k : Nat) (A0 : Option Addr) (c0 : Nat) (l0 : List (S36)) (a1 : Int) (r : List (S36)) (w : World) (hr0 : Kd.C k36 w A0 l0.length l0) (hc0 : l0.length ≤ c0) (h : merge_Visible.f k l0 a1 = some r) :
  Calls Try.prog 14 #[.slice A0 l0.length c0, .int .i64 a1] w fun e w' => ∃ v0_ : Value, e = .returned (v0_) ∧ Kd.R k36 36 w' w.heap.size (fun _ => True) v0_ r ∧ Below w.heap.size w w' := by
 have hu36 := Try.underlying36
 have HR0 := Aside0.mk hr0
 have HC0 := Aside0.mk hc0
 clear hr0 hc0
 have HB := Aside0.mk (Below.refl w.heap.size w)
 have H : ((merge_groups.f k l0).bind fun t204 => (merge_Visible.l0 k a1 ([] : List (S36)) t204 (t204.length : Int) 0)) = some r := h
 clear h
 replace H := Option.bind_eq_some_iff.mp H
 obtain ⟨t204, A30, H⟩ := H
 replace H : (merge_Visible.l0 k a1 ([] : List (S36)) t204 (t204.length : Int) 0) = some r := H
 have A3 := Aside0.mk A30
 clear A30
 have H' := Aside0.mk H
 clear H
 go_enter Try.func14, Try.ntmps14
 go_wp2_with (first | ((with_reducible refine gate_callee (f := 28) rfl ?_); refine goesL_ (some 10) rfl rfl Try.func28 (by kernel_rfl) rfl #[.slice A0 l0.length c0] rfl (by (try simp only [List.map_toArray, List.map_cons, List.map_nil]); first | done | rfl | (simp only [List.length_drop, List.length_take]; rfl)) ?_; (with_reducible refine (merge_groups.calls k (fun k_ => k_ < w.heap.size) _ _ l0 t204 _ ?side1 A3.out).mono ?_); (case side1 => exact Kd.V_mk HC0.out (Kd.F_below (Kd.C_F k36_heap HR0.out) HB.out)); rintro e w4 ⟨v205, rfl, ho0, hb⟩; refine ⟨_, rfl, ?_⟩; have n0_ := Aside0.mk (Kd.N_lower (Kd.N_mono (ok' := fun k_ => True) ho0 (fun k_ hk_ => trivial)) (below_size HB.out)); have n1_ := Aside0.mk (below_step HB.out hb); clear HB; have HO206 := n0_; have HB := n1_; clear n0_ n1_; (try clear hb); (try clear hb2); (try clear hk); (try clear hi); (try clear ho0); obtain ⟨Ao5, co5, eo5⟩ := Kd.N_slice HO206.out; subst eo5))
 go_loopg [5, 12] k (fun kq v5 v12 w' => ∃ (x5_1 : List (S36)) (x12_1 : Int), v12 = .int .i64 x12_1 ∧ Aside0 (merge_Visible.l0 kq a1 x5_1 t204 (t204.length : Int) x12_1 = some r) ∧ Aside0 (kq ≤ k) ∧ Aside0 (Kd.R k36 36 w' w.heap.size (fun _ => True) v5 x5_1) ∧ Aside0 (Kd.N (Kd.slice 36 k36) 27 w' w.heap.size (fun k_ => some k_ ≠ (v5 : Value).ownBlock) (.slice Ao5 t204.length co5) t204) ∧ Aside0 (Below w.heap.size w w'))
 case atStart => exact ⟨(([] : List (S36))), (0), (by first | rfl | (simp; done) | (simp [*]; done)), H', ⟨Nat.le_refl _⟩, ⟨by first | exact Kd.R_nil _ _ _ _ _ | exact Kd.N_nil _ _ _ _ _ | exact Kd.V_nil _ _ _ _ _ | exact Kd.Q_nil _ _ _ _ _ | exact Kd.S_nil _ _ _ _ _⟩, ⟨by (with_reducible repeat (first | apply Kd.N_alloc | apply Kd.N_drewN | apply Kd.N_drew)); exact Kd.N_mono HO206.out (fun _ hk => (by simp [Value.ownBlock]))⟩, ⟨by repeat (first | (with_reducible first | exact HB.out | apply below_alloc | apply pw_below_drewN | apply below_drew1) | exact HB.out)⟩⟩
 case round =>
  clear H'
  try clear c1
  try clear c2
  try clear p2
  obtain ⟨x5_1, x12_1, rfl, HA, HK1, HO_5, HO_10, HB⟩ := hrel
  cases gk with
  | zero => exact absurd HA.out (by simp [merge_Visible.l0])
  | succ k1 =>
   have H := HA.out
   clear HA
   simp only [merge_Visible.l0] at H
   by_cases c6 : x12_1 < (t204.length : Int)
   ·rw [if_pos c6] at H
    have c6b0 : decide (x12_1 < (t204.length : Int)) = true := decide_eq_true c6
    clear c6
    by_cases c7 : 0 ≤ x12_1
    ·rw [if_pos c7] at H
     have c7b0 : decide (0 ≤ x12_1) = true := decide_eq_true c7
     clear c7
     by_cases c8 : x12_1 < (t204.length : Int)
     ·rw [if_pos c8] at H
      have c8b0 : decide (x12_1 < (t204.length : Int)) = true := decide_eq_true c8
      clear c8
      replace H := Option.bind_eq_some_iff.mp H
      obtain ⟨t208, A90, H⟩ := H
      replace H : (if t208 ≥ 0 then (if 0 ≤ t208 then (if t208 < ((rd_L4 t204 x12_1).length : Int) then (if ((rd_T36 (rd_L4 t204 x12_1) t208).f2 = true) then (merge_Visible.l0 k1 a1 x5_1 t204 (t204.length : Int) (wrap64 (x12_1 + 1))) else (if x5_1.length < 2932031007402 then (merge_Visible.l0 k1 a1 (x5_1 ++ [(⟨(rd_T36 (rd_L4 t204 x12_1) t208).f0, (rd_T36 (rd_L4 t204 x12_1) t208).f1, (rd_T36 (rd_L4 t204 x12_1) t208).f2, (rd_T36 (rd_L4 t204 x12_1) t208).f3⟩ : S36)]) t204 (t204.length : Int) (wrap64 (x12_1 + 1))) else (none))) else (none)) else (none)) else (merge_Visible.l0 k1 a1 x5_1 t204 (t204.length : Int) (wrap64 (x12_1 + 1)))) = some r := H
      have A9 := Aside0.mk A90
      clear A90
      by_cases c10 : t208 ≥ 0
      ·rw [if_pos c10] at H
       have c10b0 : decide (0 ≤ t208) = true := decide_eq_true c10
       clear c10
       by_cases c11 : 0 ≤ t208
       ·rw [if_pos c11] at H
        have c11b0 : decide (0 ≤ t208) = true := decide_eq_true c11
        clear c11
        by_cases c12 : t208 < ((rd_L4 t204 x12_1).length : Int)
        ·rw [if_pos c12] at H
         have c12b0 : decide (t208 < ((rd_L4 t204 x12_1).length : Int)) = true := decide_eq_true c12
         clear c12
         obtain ⟨bq13, hbq13⟩ : ∃ b_ : Bool, b_ = ((rd_T36 (rd_L4 t204 x12_1) t208).f2) := ⟨_, rfl⟩
         replace H : (if (bq13 = true) then (merge_Visible.l0 k1 a1 x5_1 t204 (t204.length : Int) (wrap64 (x12_1 + 1))) else (if x5_1.length < 2932031007402 then (merge_Visible.l0 k1 a1 (x5_1 ++ [(⟨(rd_T36 (rd_L4 t204 x12_1) t208).f0, (rd_T36 (rd_L4 t204 x12_1) t208).f1, bq13, (rd_T36 (rd_L4 t204 x12_1) t208).f3⟩ : S36)]) t204 (t204.length : Int) (wrap64 (x12_1 + 1))) else (none))) = some r := by rw [← hbq13] at H; exact H
         have Nbq13 := Aside0.mk hbq13
         clear hbq13
         by_cases c14 : (bq13 = true)
         ·subst c14
          have H1 : (merge_Visible.l0 k1 a1 x5_1 t204 (t204.length : Int) (wrap64 (x12_1 + 1))) = some r := by rw [if_pos rfl] at H; exact H
          clear H
          have H := H1
          clear H1
          have H' := Aside0.mk H
          clear H
          have p207 : 0 ≤ (x12_1 : Int) := of_decide_eq_true (by first | (with_reducible assumption) | assumption)
          have q207 : x12_1 < (t204.length : Int) := of_decide_eq_true (by first | (with_reducible assumption) | assumption)
          obtain ⟨ad207, A207_0, c207_0, e207, hx207_0, hl207_0, hi207_0⟩ := at_L4 (Kd.N_reads' HO_10.out).2.2 x12_1 p207 q207
          cases e207
          obtain ⟨ce207, hce207, hMe207, hcc207⟩ := Kd.N_get HO_10.out [] x12_1 p207 (by first | exact q207 | exact of_decide_eq_true (by first | (with_reducible assumption) | assumption) | (have e_ := (Kd.N_reads' HO_10.out).1; omega))
          obtain ⟨ua207_0, uc207_0, rfl, ul207_0, ge207_0⟩ := Kd.FK_slice_open hMe207
          have hv207_0 := hcc207 0 _ rfl
          rw [Nat.add_zero, show ((Kd.slice 36 k36)).sz = 1 from rfl, Nat.mul_one] at hv207_0
          replace hv207_0 := Option.some.inj (hv207_0.symm.trans hx207_0)
          injection hv207_0 with hva_ hvn_ hvc_
          rw [hva_] at ge207_0
          rw [hvc_] at ul207_0
          have HL207_0 := Aside0.mk (show Kd.V k36 36 _ w.heap.size _ _ (rd_L4 t204 x12_1) from Kd.V_mk ul207_0 ge207_0)
          clear hva_ hvn_ hvc_ ge207_0 ul207_0
          clear hcc207 hce207
          have HR207_0 := Aside0.mk hi207_0
          have HC207_0 := Aside0.mk hl207_0
          clear hi207_0 hl207_0
          replace p207 := eq_true p207
          replace q207 := eq_true q207
          go_wp2_with (first | ((with_reducible refine gate_callee (f := 29) rfl ?_); refine goesL_ (some 18) rfl rfl Try.func29 (by kernel_rfl) rfl #[.slice A207_0 (rd_L4 t204 x12_1).length c207_0, .int .i64 a1] rfl (by (try simp only [List.map_toArray, List.map_cons, List.map_nil]); first | done | rfl | (simp only [List.length_drop, List.length_take]; rfl)) ?_; (with_reducible refine (merge_newest.calls _ _ (rd_L4 t204 x12_1) a1 t208 _ ?side1 ?side2 A9.out).mono ?_); (case side1 => repeat (first | exact HR207_0.out | (with_reducible refine Kd.C_alloc ?_ _) | (with_reducible refine Kd.C_drewN ?_ _) | (with_reducible refine Kd.C_drew ?_))); (case side2 => exact HC207_0.out); rintro e w15 ⟨rfl, hb⟩; refine ⟨_, rfl, ?_⟩; have n0_ := Aside0.mk (Kd.R_below HO_5.out hb); have n1_ := Aside0.mk (Kd.N_below HO_10.out hb); have n2_ := Aside0.mk (Kd.V_below HL207_0.out hb); have n3_ := Aside0.mk (Kd.C_below HR207_0.out hb); have n4_ := Aside0.mk (below_step HB.out hb); clear HO_5; clear HO_10; clear HL207_0; clear HR207_0; clear HB; have HO_5 := n0_; have HO_10 := n1_; have HL207_0 := n2_; have HR207_0 := n3_; have HB := n4_; clear n0_ n1_ n2_ n3_ n4_; (try clear hb); (try clear hb2); (try clear hk); (try clear hi); have p209 : 0 ≤ (t208 : Int) := of_decide_eq_true (by first | (with_reducible assumption) | assumption); have q209 : t208 < ((rd_L4 t204 x12_1).length : Int) := of_decide_eq_true (by first | (with_reducible assumption) | assumption); obtain ⟨ad209, e209, hx209_0, hx209_1, hx209_2, hx209_3⟩ := at_T36 HR207_0.out t208 p209 q209; (try rw [← Nbq13.out] at hx209_2); cases e209; replace p209 := eq_true p209; replace q209 := eq_true q209))
          go_roundg k1
          case measure => have := HK1.out; omega
          case rel => exact ⟨(x5_1), (wrap64 (x12_1 + 1)), (by first | rfl | (simp; done) | (simp [*]; done)), H', ⟨by have := HK1.out; omega⟩, ⟨by (with_reducible repeat (first | apply Kd.R_alloc | apply Kd.R_drewN | apply Kd.R_drew)); exact HO_5.out⟩, ⟨by (with_reducible repeat (first | apply Kd.N_alloc | apply Kd.N_drewN | apply Kd.N_drew)); exact HO_10.out⟩, ⟨by repeat (first | (with_reducible first | exact HB.out | apply below_alloc | apply pw_below_drewN | apply below_drew1) | exact HB.out)⟩⟩
         ·replace c14 := Bool.eq_false_iff.mpr c14
          subst c14
          have H1 : (if x5_1.length < 2932031007402 then (merge_Visible.l0 k1 a1 (x5_1 ++ [(⟨(rd_T36 (rd_L4 t204 x12_1) t208).f0, (rd_T36 (rd_L4 t204 x12_1) t208).f1, false, (rd_T36 (rd_L4 t204 x12_1) t208).f3⟩ : S36)]) t204 (t204.length : Int) (wrap64 (x12_1 + 1))) else (none)) = some r := by rw [if_neg (show ¬ (false = true) by decide)] at H; exact H
          clear H
          have H := H1
          clear H1
          by_cases c16 : x5_1.length < 2932031007402
          ·rw [if_pos c16] at H
           have LMc16 := Aside0.mk c16
           clear c16
           obtain ⟨y211, hy211⟩ : ∃ y_ : List (S36), y_ = (x5_1 ++ [(⟨(rd_T36 (rd_L4 t204 x12_1) t208).f0, (rd_T36 (rd_L4 t204 x12_1) t208).f1, false, (rd_T36 (rd_L4 t204 x12_1) t208).f3⟩ : S36)]) := ⟨_, rfl⟩
           replace H : (merge_Visible.l0 k1 a1 y211 t204 (t204.length : Int) (wrap64 (x12_1 + 1))) = some r := by first | (rw [hy211]; with_reducible exact H) | (have H2_ := (Option.bind_some _ _).symm.trans H; rw [hy211]; with_reducible exact H2_) | (have H2_ := (Option.bind_some _ _).symm.trans H; with_reducible exact H2_) | with_reducible exact H | (rw [hy211]; exact H) | exact H
           have Ny211 := Aside0.mk hy211
           clear hy211
           have H' := Aside0.mk H
           clear H
           have p207 : 0 ≤ (x12_1 : Int) := of_decide_eq_true (by first | (with_reducible assumption) | assumption)
           have q207 : x12_1 < (t204.length : Int) := of_decide_eq_true (by first | (with_reducible assumption) | assumption)
           obtain ⟨ad207, A207_0, c207_0, e207, hx207_0, hl207_0, hi207_0⟩ := at_L4 (Kd.N_reads' HO_10.out).2.2 x12_1 p207 q207
           cases e207
           obtain ⟨ce207, hce207, hMe207, hcc207⟩ := Kd.N_get HO_10.out [] x12_1 p207 (by first | exact q207 | exact of_decide_eq_true (by first | (with_reducible assumption) | assumption) | (have e_ := (Kd.N_reads' HO_10.out).1; omega))
           obtain ⟨ua207_0, uc207_0, rfl, ul207_0, ge207_0⟩ := Kd.FK_slice_open hMe207
           have hv207_0 := hcc207 0 _ rfl
           rw [Nat.add_zero, show ((Kd.slice 36 k36)).sz = 1 from rfl, Nat.mul_one] at hv207_0
           replace hv207_0 := Option.some.inj (hv207_0.symm.trans hx207_0)
           injection hv207_0 with hva_ hvn_ hvc_
           rw [hva_] at ge207_0
           rw [hvc_] at ul207_0
           have HL207_0 := Aside0.mk (show Kd.V k36 36 _ w.heap.size _ _ (rd_L4 t204 x12_1) from Kd.V_mk ul207_0 ge207_0)
           clear hva_ hvn_ hvc_ ge207_0 ul207_0
           clear hcc207 hce207
           have HR207_0 := Aside0.mk hi207_0
           have HC207_0 := Aside0.mk hl207_0
           clear hi207_0 hl207_0
           replace p207 := eq_true p207
           replace q207 := eq_true q207
           go_wp2_with (first | ((with_reducible refine gate_callee (f := 29) rfl ?_); refine goesL_ (some 18) rfl rfl Try.func29 (by kernel_rfl) rfl #[.slice A207_0 (rd_L4 t204 x12_1).length c207_0, .int .i64 a1] rfl (by (try simp only [List.map_toArray, List.map_cons, List.map_nil]); first | done | rfl | (simp only [List.length_drop, List.length_take]; rfl)) ?_; (with_reducible refine (merge_newest.calls _ _ (rd_L4 t204 x12_1) a1 t208 _ ?side1 ?side2 A9.out).mono ?_); (case side1 => repeat (first | exact HR207_0.out | (with_reducible refine Kd.C_alloc ?_ _) | (with_reducible refine Kd.C_drewN ?_ _) | (with_reducible refine Kd.C_drew ?_))); (case side2 => exact HC207_0.out); rintro e w17 ⟨rfl, hb⟩; refine ⟨_, rfl, ?_⟩; have n0_ := Aside0.mk (Kd.R_below HO_5.out hb); have n1_ := Aside0.mk (Kd.N_below HO_10.out hb); have n2_ := Aside0.mk (Kd.V_below HL207_0.out hb); have n3_ := Aside0.mk (Kd.C_below HR207_0.out hb); have n4_ := Aside0.mk (below_step HB.out hb); clear HO_5; clear HO_10; clear HL207_0; clear HR207_0; clear HB; have HO_5 := n0_; have HO_10 := n1_; have HL207_0 := n2_; have HR207_0 := n3_; have HB := n4_; clear n0_ n1_ n2_ n3_ n4_; (try clear hb); (try clear hb2); (try clear hk); (try clear hi); have p209 : 0 ≤ (t208 : Int) := of_decide_eq_true (by first | (with_reducible assumption) | assumption); have q209 : t208 < ((rd_L4 t204 x12_1).length : Int) := of_decide_eq_true (by first | (with_reducible assumption) | assumption); obtain ⟨ad209, e209, hx209_0, hx209_1, hx209_2, hx209_3⟩ := at_T36 HR207_0.out t208 p209 q209; (try rw [← Nbq13.out] at hx209_2); cases e209; replace p209 := eq_true p209; replace q209 := eq_true q209; have p210 : 0 ≤ (t208 : Int) := of_decide_eq_true (by first | (with_reducible assumption) | assumption); have q210 : t208 < ((rd_L4 t204 x12_1).length : Int) := of_decide_eq_true (by first | (with_reducible assumption) | assumption); obtain ⟨ad210, e210, hx210_0, hx210_1, hx210_2, hx210_3⟩ := at_T36 HR207_0.out t208 p210 q210; (try rw [← Nbq13.out] at hx210_2); obtain rfl : ad209 = ad210 := (by injection e210); replace p210 := eq_true p210; replace q210 := eq_true q210) | ((with_reducible refine gate_builtin (b := .append) (xs := #[.tmp 29, .tmp 34]) rfl ?_); at_builtin; refine Kd.R_append k36 (w0 := w) w.heap.size rfl (.tmp 29) (.tmp 34) 27 36 (.agg #[(.string ⟨#[]⟩), (.int .i64 0), (.bool false), (.string ⟨#[]⟩)]) 48 rfl Try.underlying27 info36 rfl (by decide) (by omega) u5 x5_1 (⟨(rd_T36 (rd_L4 t204 x12_1) t208).f0, (rd_T36 (rd_L4 t204 x12_1) t208).f1, false, (rd_T36 (rd_L4 t204 x12_1) t208).f3⟩ : S36) [.string ((rd_T36 (rd_L4 t204 x12_1) t208).f0), .int .i64 ((rd_T36 (rd_L4 t204 x12_1) t208).f1), .bool false, .string ((rd_T36 (rd_L4 t204 x12_1) t208).f3)] (fun _ => True) (fun _ => False) rfl rfl ?aP (fun _ hk => hk.elim) ?aF ?aO ?aB ?aS ?aL ?_; (case aP => exact k36_mkM _ _ _ (⟨(rd_T36 (rd_L4 t204 x12_1) t208).f0, (rd_T36 (rd_L4 t204 x12_1) t208).f1, false, (rd_T36 (rd_L4 t204 x12_1) t208).f3⟩ : S36)); (case aB => exact HB.out); (case aF => exact (fun _ _ => trivial)); (case aO => exact HO_5.out); (case aS => exact (below_size HB.out)); (case aL => have := LMc16.out; omega); intro v212 w18 ho hb hg hat; rw [← Ny211.out] at ho; have n0_ := Aside0.mk (Kd.N_afterv (ok := (fun _ => True)) (by (with_reducible repeat (first | apply Kd.N_alloc | apply Kd.N_drewN | apply Kd.N_drew)); exact Kd.N_mono HO_10.out (fun _ hk => ⟨trivial, hk⟩)) hg hat); have n1_ := Aside0.mk (Kd.V_afterv (ok := (fun k_ => some k_ ≠ (.slice (some ad207) t204.length co5 : Value).ownBlock)) (by (with_reducible repeat (first | apply Kd.V_alloc | apply Kd.V_drewN | apply Kd.V_drew)); exact Kd.V_mono HL207_0.out (fun _ hk => ⟨hk.2, hk.1⟩)) hg hat); have n2_ := Aside0.mk (hb); have n3_ := Aside0.mk (ho); clear HO_10; clear HL207_0; clear HB; clear HO_5; have HO_10 := n0_; have HL207_0 := n1_; have HB := n2_; have HO213 := n3_; clear n0_ n1_ n2_ n3_; clear ho hb hg hat))
           go_roundg k1
           case measure => have := HK1.out; omega
           case rel => exact ⟨(y211), (wrap64 (x12_1 + 1)), (by first | rfl | (simp; done) | (simp [*]; done)), H', ⟨by have := HK1.out; omega⟩, ⟨by (with_reducible repeat (first | apply Kd.R_alloc | apply Kd.R_drewN | apply Kd.R_drew)); exact HO213.out⟩, ⟨by (with_reducible repeat (first | apply Kd.N_alloc | apply Kd.N_drewN | apply Kd.N_drew)); exact Kd.N_mono HO_10.out (fun _ hk => hk.2)⟩, ⟨by repeat (first | (with_reducible first | exact HB.out | apply below_alloc | apply pw_below_drewN | apply below_drew1) | exact HB.out)⟩⟩
          ·rw [if_neg c16] at H
           exact absurd H (by simp)
        ·rw [if_neg c12] at H
         exact absurd H (by simp)
       ·rw [if_neg c11] at H
        exact absurd H (by simp)
      ·rw [if_neg c10] at H
       have c10b0 : decide (0 ≤ t208) = false := decide_eq_false c10
       clear c10
       have H' := Aside0.mk H
       clear H
       have p207 : 0 ≤ (x12_1 : Int) := of_decide_eq_true (by first | (with_reducible assumption) | assumption)
       have q207 : x12_1 < (t204.length : Int) := of_decide_eq_true (by first | (with_reducible assumption) | assumption)
       obtain ⟨ad207, A207_0, c207_0, e207, hx207_0, hl207_0, hi207_0⟩ := at_L4 (Kd.N_reads' HO_10.out).2.2 x12_1 p207 q207
       cases e207
       obtain ⟨ce207, hce207, hMe207, hcc207⟩ := Kd.N_get HO_10.out [] x12_1 p207 (by first | exact q207 | exact of_decide_eq_true (by first | (with_reducible assumption) | assumption) | (have e_ := (Kd.N_reads' HO_10.out).1; omega))
       obtain ⟨ua207_0, uc207_0, rfl, ul207_0, ge207_0⟩ := Kd.FK_slice_open hMe207
       have hv207_0 := hcc207 0 _ rfl
       rw [Nat.add_zero, show ((Kd.slice 36 k36)).sz = 1 from rfl, Nat.mul_one] at hv207_0
       replace hv207_0 := Option.some.inj (hv207_0.symm.trans hx207_0)
       injection hv207_0 with hva_ hvn_ hvc_
       rw [hva_] at ge207_0
       rw [hvc_] at ul207_0
       have HL207_0 := Aside0.mk (show Kd.V k36 36 _ w.heap.size _ _ (rd_L4 t204 x12_1) from Kd.V_mk ul207_0 ge207_0)
       clear hva_ hvn_ hvc_ ge207_0 ul207_0
       clear hcc207 hce207
       have HR207_0 := Aside0.mk hi207_0
       have HC207_0 := Aside0.mk hl207_0
       clear hi207_0 hl207_0
       replace p207 := eq_true p207
       replace q207 := eq_true q207
       go_wp2_with (first | ((with_reducible refine gate_callee (f := 29) rfl ?_); refine goesL_ (some 18) rfl rfl Try.func29 (by kernel_rfl) rfl #[.slice A207_0 (rd_L4 t204 x12_1).length c207_0, .int .i64 a1] rfl (by (try simp only [List.map_toArray, List.map_cons, List.map_nil]); first | done | rfl | (simp only [List.length_drop, List.length_take]; rfl)) ?_; (with_reducible refine (merge_newest.calls _ _ (rd_L4 t204 x12_1) a1 t208 _ ?side1 ?side2 A9.out).mono ?_); (case side1 => repeat (first | exact HR207_0.out | (with_reducible refine Kd.C_alloc ?_ _) | (with_reducible refine Kd.C_drewN ?_ _) | (with_reducible refine Kd.C_drew ?_))); (case side2 => exact HC207_0.out); rintro e w19 ⟨rfl, hb⟩; refine ⟨_, rfl, ?_⟩; have n0_ := Aside0.mk (Kd.R_below HO_5.out hb); have n1_ := Aside0.mk (Kd.N_below HO_10.out hb); have n2_ := Aside0.mk (Kd.V_below HL207_0.out hb); have n3_ := Aside0.mk (Kd.C_below HR207_0.out hb); have n4_ := Aside0.mk (below_step HB.out hb); clear HO_5; clear HO_10; clear HL207_0; clear HR207_0; clear HB; have HO_5 := n0_; have HO_10 := n1_; have HL207_0 := n2_; have HR207_0 := n3_; have HB := n4_; clear n0_ n1_ n2_ n3_ n4_; (try clear hb); (try clear hb2); (try clear hk); (try clear hi)))
       go_roundg k1
       case measure => have := HK1.out; omega
       case rel => exact ⟨(x5_1), (wrap64 (x12_1 + 1)), (by first | rfl | (simp; done) | (simp [*]; done)), H', ⟨by have := HK1.out; omega⟩, ⟨by (with_reducible repeat (first | apply Kd.R_alloc | apply Kd.R_drewN | apply Kd.R_drew)); exact HO_5.out⟩, ⟨by (with_reducible repeat (first | apply Kd.N_alloc | apply Kd.N_drewN | apply Kd.N_drew)); exact HO_10.out⟩, ⟨by repeat (first | (with_reducible first | exact HB.out | apply below_alloc | apply pw_below_drewN | apply below_drew1) | exact HB.out)⟩⟩
     ·rw [if_neg c8] at H
      exact absurd H (by simp)
    ·rw [if_neg c7] at H
     exact absurd H (by simp)
   ·rw [if_neg c6] at H
    have c6b0 : decide (x12_1 < (t204.length : Int)) = false := decide_eq_false c6
    clear c6
    obtain rfl := Option.some.inj H
    go_wp2
    go_ret
    exact ⟨_, by first | rfl | (simp [errW_none, errW_some] <;> rfl) | (simp [*, errW_none, errW_some] <;> rfl), by (with_reducible repeat (first | apply Kd.R_alloc | apply Kd.R_drewN | apply Kd.R_drew)); exact HO_5.out, by repeat (first | (with_reducible first | exact HB.out | apply below_alloc | apply pw_below_drewN | apply below_drew1) | exact HB.out)⟩

-- GIVEN: function 31 (slices_Sort_int_int)

-- GIVEN: function 32 (slices_Compact_int_int)

end Go.Proofs.Ythdoanbadhfhjaa.PAll

-- slimmed
