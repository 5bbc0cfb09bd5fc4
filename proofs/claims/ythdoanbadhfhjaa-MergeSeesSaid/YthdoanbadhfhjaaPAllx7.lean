-- Laid by ownprint.py (a program of the session, in wip/tools), out of the translation: Lean checks it.
import Derived.Test.YthdoanbadhfhjaaPAllx0
import Derived.Test.YthdoanbadhfhjaaPAllx5
import Derived.Test.YthdoanbadhfhjaaGv
import Derived.Test.YthdoanbadhfhjaaGa
import Derived.Test.YthdoanbadhfhjaaGb
namespace Go.Proofs.Ythdoanbadhfhjaa.PAll
open Go.RowKit Go.Proofs.YthdoanbadhfhjaaW.PrintWords Go.Proofs.YthdoanbadhfhjaaW.PrintLast Go.Proofs.YthdoanbadhfhjaaW.PrintMore
attribute [local go_sem] max2_int min2_int max_two min_two max_three min_three max_four min_four   -- for this text's walks alone
set_option linter.unusedVariables false
set_option linter.unusedSimpArgs false

/-! ### merge_Thin: function 16 -/
mutual
def merge_Thin.l0 : Nat → List Int → Bool → List (S36) → List (List (S36)) → Int → Int → Option ((List (S36)))
 | 0, _, _, _, _, _, _ => none
 | k + 1, x1, x2, x7, x17, x18, x19 => if x19 < x18 then (if 0 ≤ x19 then (if x19 < (x17.length : Int) then (merge_Thin.l1 k x1 x2 x7 (rd_L4 x17 x19) (([0] : List Int)) x17 x18 x19 x1 (x1.length : Int) 0) else (none)) else (none)) else (some x7)
def merge_Thin.l1 : Nat → List Int → Bool → List (S36) → List (S36) → List Int → List (List (S36)) → Int → Int → List Int → Int → Int → Option ((List (S36)))
 | 0, _, _, _, _, _, _, _, _, _, _, _ => none
 | k + 1, x1, x2, x7, x9, x10, x17, x18, x19, x24, x25, x26 => if x26 < x25 then (if 0 ≤ x26 then (if x26 < (x24.length : Int) then ((merge_newest.f x9 (rd x24 x26)).bind fun t222 => (if t222 ≥ 0 then (if x10.length < 17592186044416 then (merge_Thin.l1 k x1 x2 x7 x9 (x10 ++ [t222]) x17 x18 x19 x24 x25 (wrap64 (x26 + 1))) else (none)) else (merge_Thin.l1 k x1 x2 x7 x9 x10 x17 x18 x19 x24 x25 (wrap64 (x26 + 1))))) else (none)) else (none)) else ((slices_Sort_int_int.f x10).bind fun t226 => ((slices_Compact_int_int.f t226).bind fun t227 => (merge_Thin.l2 k x1 x2 x7 x9 t227 x17 x18 x19)))
def merge_Thin.j3 : Nat → List Int → Bool → List (S36) → List (S36) → List Int → List (List (S36)) → Int → Int → Option ((List (S36)))
 | 0, _, _, _, _, _, _, _, _ => none
 | k + 1, x1, x2, x7, x9, x10, x17, x18, x19 => merge_Thin.l3 k x1 x2 x7 x9 x17 x18 x19 x10 (x10.length : Int) 0
def merge_Thin.l3 : Nat → List Int → Bool → List (S36) → List (S36) → List (List (S36)) → Int → Int → List Int → Int → Int → Option ((List (S36)))
 | 0, _, _, _, _, _, _, _, _, _, _ => none
 | k + 1, x1, x2, x7, x9, x17, x18, x19, x67, x68, x69 => if x69 < x68 then (if 0 ≤ x69 then (if x69 < (x67.length : Int) then (if 0 ≤ (rd x67 x69) then (if (rd x67 x69) < (x9.length : Int) then (if x7.length < 2932031007402 then (merge_Thin.l3 k x1 x2 (x7 ++ [(⟨(rd_T36 x9 (rd x67 x69)).f0, (rd_T36 x9 (rd x67 x69)).f1, (rd_T36 x9 (rd x67 x69)).f2, (rd_T36 x9 (rd x67 x69)).f3⟩ : S36)]) x9 x17 x18 x19 x67 x68 (wrap64 (x69 + 1))) else (none)) else (none)) else (none)) else (none)) else (none)) else (merge_Thin.l0 k x1 x2 x7 x17 x18 (wrap64 (x19 + 1)))
def merge_Thin.l2 : Nat → List Int → Bool → List (S36) → List (S36) → List Int → List (List (S36)) → Int → Int → Option ((List (S36)))
 | 0, _, _, _, _, _, _, _, _ => none
 | k + 1, x1, x2, x7, x9, x10, x17, x18, x19 => if x2 = true then (if (x10.length : Int) > 0 then (if 0 ≤ (wrap64 ((x10.length : Int) - 1)) then (if (wrap64 ((x10.length : Int) - 1)) < (x10.length : Int) then (if 0 ≤ (rd x10 (wrap64 ((x10.length : Int) - 1))) then (if (rd x10 (wrap64 ((x10.length : Int) - 1))) < (x9.length : Int) then (if (rd_T36 x9 (rd x10 (wrap64 ((x10.length : Int) - 1)))).f2 = true then (if (wrap64 ((x10.length : Int) - 1)) ≤ (x10.length : Int) then (merge_Thin.l2 k x1 x2 x7 x9 (x10.take ((wrap64 ((x10.length : Int) - 1)) : Int).toNat) x17 x18 x19) else (none)) else (merge_Thin.j3 k x1 x2 x7 x9 x10 x17 x18 x19)) else (none)) else (none)) else (none)) else (none)) else (merge_Thin.j3 k x1 x2 x7 x9 x10 x17 x18 x19)) else (merge_Thin.j3 k x1 x2 x7 x9 x10 x17 x18 x19)
end
def merge_Thin.f (k : Nat) (l0 : List (S36)) (l1 : List Int) (a2 : Bool) : Option ((List (S36))) := (merge_groups.f k l0).bind fun t214 => (merge_Thin.l0 k l1 a2 ([] : List (S36)) t214 (t214.length : Int) 0)
theorem merge_Thin.mono_l : ∀ k, (∀ y0 y1 y2 y3 y4 y5, LeO (merge_Thin.l0 k y0 y1 y2 y3 y4 y5) (merge_Thin.l0 (k + 1) y0 y1 y2 y3 y4 y5)) ∧ (∀ y0 y1 y2 y3 y4 y5 y6 y7 y8 y9 y10, LeO (merge_Thin.l1 k y0 y1 y2 y3 y4 y5 y6 y7 y8 y9 y10) (merge_Thin.l1 (k + 1) y0 y1 y2 y3 y4 y5 y6 y7 y8 y9 y10)) ∧ (∀ y0 y1 y2 y3 y4 y5 y6 y7, LeO (merge_Thin.j3 k y0 y1 y2 y3 y4 y5 y6 y7) (merge_Thin.j3 (k + 1) y0 y1 y2 y3 y4 y5 y6 y7)) ∧ (∀ y0 y1 y2 y3 y4 y5 y6 y7 y8 y9, LeO (merge_Thin.l3 k y0 y1 y2 y3 y4 y5 y6 y7 y8 y9) (merge_Thin.l3 (k + 1) y0 y1 y2 y3 y4 y5 y6 y7 y8 y9)) ∧ (∀ y0 y1 y2 y3 y4 y5 y6 y7, LeO (merge_Thin.l2 k y0 y1 y2 y3 y4 y5 y6 y7) (merge_Thin.l2 (k + 1) y0 y1 y2 y3 y4 y5 y6 y7))
 | 0 => ⟨fun _ _ _ _ _ _ r h => by simp [merge_Thin.l0] at h, fun _ _ _ _ _ _ _ _ _ _ _ r h => by simp [merge_Thin.l1] at h, fun _ _ _ _ _ _ _ _ r h => by simp [merge_Thin.j3] at h, fun _ _ _ _ _ _ _ _ _ _ r h => by simp [merge_Thin.l3] at h, fun _ _ _ _ _ _ _ _ r h => by simp [merge_Thin.l2] at h⟩
 | k + 1 => by
  obtain ⟨ih0, ih1, ih2, ih3, ih4⟩ := merge_Thin.mono_l k
  refine ⟨?_, ?_, ?_, ?_, ?_⟩
  ·intro y0 y1 y2 y3 y4 y5
   unfold merge_Thin.l0
   repeat' first
   | (with_reducible exact ih0 _ _ _ _ _ _)
   | (with_reducible exact ih1 _ _ _ _ _ _ _ _ _ _ _)
   | (with_reducible exact ih2 _ _ _ _ _ _ _ _)
   | (with_reducible exact ih3 _ _ _ _ _ _ _ _ _ _)
   | (with_reducible exact ih4 _ _ _ _ _ _ _ _)
   | (with_reducible exact merge_groups.mono _ _)
   | (with_reducible exact LeO.refl _)
   | (with_reducible exact LeO.none _)
   | (with_reducible refine LeO.ite ?_ ?_)
   | (with_reducible refine LeO.bind ?_ (fun _ => ?_))
   | exact ih0 _ _ _ _ _ _
   | exact ih1 _ _ _ _ _ _ _ _ _ _ _
   | exact ih2 _ _ _ _ _ _ _ _
   | exact ih3 _ _ _ _ _ _ _ _ _ _
   | exact ih4 _ _ _ _ _ _ _ _
   | exact merge_groups.mono _ _
   | exact LeO.none _
   | refine LeO.ite ?_ ?_
   | refine LeO.bind ?_ (fun _ => ?_)
  ·intro y0 y1 y2 y3 y4 y5 y6 y7 y8 y9 y10
   unfold merge_Thin.l1
   repeat' first
   | (with_reducible exact ih0 _ _ _ _ _ _)
   | (with_reducible exact ih1 _ _ _ _ _ _ _ _ _ _ _)
   | (with_reducible exact ih2 _ _ _ _ _ _ _ _)
   | (with_reducible exact ih3 _ _ _ _ _ _ _ _ _ _)
   | (with_reducible exact ih4 _ _ _ _ _ _ _ _)
   | (with_reducible exact merge_groups.mono _ _)
   | (with_reducible exact LeO.refl _)
   | (with_reducible exact LeO.none _)
   | (with_reducible refine LeO.ite ?_ ?_)
   | (with_reducible refine LeO.bind ?_ (fun _ => ?_))
   | exact ih0 _ _ _ _ _ _
   | exact ih1 _ _ _ _ _ _ _ _ _ _ _
   | exact ih2 _ _ _ _ _ _ _ _
   | exact ih3 _ _ _ _ _ _ _ _ _ _
   | exact ih4 _ _ _ _ _ _ _ _
   | exact merge_groups.mono _ _
   | exact LeO.none _
   | refine LeO.ite ?_ ?_
   | refine LeO.bind ?_ (fun _ => ?_)
  ·intro y0 y1 y2 y3 y4 y5 y6 y7
   unfold merge_Thin.j3
   repeat' first
   | (with_reducible exact ih0 _ _ _ _ _ _)
   | (with_reducible exact ih1 _ _ _ _ _ _ _ _ _ _ _)
   | (with_reducible exact ih2 _ _ _ _ _ _ _ _)
   | (with_reducible exact ih3 _ _ _ _ _ _ _ _ _ _)
   | (with_reducible exact ih4 _ _ _ _ _ _ _ _)
   | (with_reducible exact merge_groups.mono _ _)
   | (with_reducible exact LeO.refl _)
   | (with_reducible exact LeO.none _)
   | (with_reducible refine LeO.ite ?_ ?_)
   | (with_reducible refine LeO.bind ?_ (fun _ => ?_))
   | exact ih0 _ _ _ _ _ _
   | exact ih1 _ _ _ _ _ _ _ _ _ _ _
   | exact ih2 _ _ _ _ _ _ _ _
   | exact ih3 _ _ _ _ _ _ _ _ _ _
   | exact ih4 _ _ _ _ _ _ _ _
   | exact merge_groups.mono _ _
   | exact LeO.none _
   | refine LeO.ite ?_ ?_
   | refine LeO.bind ?_ (fun _ => ?_)
  ·intro y0 y1 y2 y3 y4 y5 y6 y7 y8 y9
   unfold merge_Thin.l3
   repeat' first
   | (with_reducible exact ih0 _ _ _ _ _ _)
   | (with_reducible exact ih1 _ _ _ _ _ _ _ _ _ _ _)
   | (with_reducible exact ih2 _ _ _ _ _ _ _ _)
   | (with_reducible exact ih3 _ _ _ _ _ _ _ _ _ _)
   | (with_reducible exact ih4 _ _ _ _ _ _ _ _)
   | (with_reducible exact merge_groups.mono _ _)
   | (with_reducible exact LeO.refl _)
   | (with_reducible exact LeO.none _)
   | (with_reducible refine LeO.ite ?_ ?_)
   | (with_reducible refine LeO.bind ?_ (fun _ => ?_))
   | exact ih0 _ _ _ _ _ _
   | exact ih1 _ _ _ _ _ _ _ _ _ _ _
   | exact ih2 _ _ _ _ _ _ _ _
   | exact ih3 _ _ _ _ _ _ _ _ _ _
   | exact ih4 _ _ _ _ _ _ _ _
   | exact merge_groups.mono _ _
   | exact LeO.none _
   | refine LeO.ite ?_ ?_
   | refine LeO.bind ?_ (fun _ => ?_)
  ·intro y0 y1 y2 y3 y4 y5 y6 y7
   unfold merge_Thin.l2
   repeat' first
   | (with_reducible exact ih0 _ _ _ _ _ _)
   | (with_reducible exact ih1 _ _ _ _ _ _ _ _ _ _ _)
   | (with_reducible exact ih2 _ _ _ _ _ _ _ _)
   | (with_reducible exact ih3 _ _ _ _ _ _ _ _ _ _)
   | (with_reducible exact ih4 _ _ _ _ _ _ _ _)
   | (with_reducible exact merge_groups.mono _ _)
   | (with_reducible exact LeO.refl _)
   | (with_reducible exact LeO.none _)
   | (with_reducible refine LeO.ite ?_ ?_)
   | (with_reducible refine LeO.bind ?_ (fun _ => ?_))
   | exact ih0 _ _ _ _ _ _
   | exact ih1 _ _ _ _ _ _ _ _ _ _ _
   | exact ih2 _ _ _ _ _ _ _ _
   | exact ih3 _ _ _ _ _ _ _ _ _ _
   | exact ih4 _ _ _ _ _ _ _ _
   | exact merge_groups.mono _ _
   | exact LeO.none _
   | refine LeO.ite ?_ ?_
   | refine LeO.bind ?_ (fun _ => ?_)
theorem merge_Thin.mono : ∀ a0 a1 a2 k, LeO (merge_Thin.f k a0 a1 a2) (merge_Thin.f (k + 1) a0 a1 a2) := by
 intro a0 a1 a2 k
 obtain ⟨ih0, ih1, ih2, ih3, ih4⟩ := merge_Thin.mono_l k
 unfold merge_Thin.f
 repeat' first
   | (with_reducible exact ih0 _ _ _ _ _ _)
   | (with_reducible exact ih1 _ _ _ _ _ _ _ _ _ _ _)
   | (with_reducible exact ih2 _ _ _ _ _ _ _ _)
   | (with_reducible exact ih3 _ _ _ _ _ _ _ _ _ _)
   | (with_reducible exact ih4 _ _ _ _ _ _ _ _)
   | (with_reducible exact merge_groups.mono _ _)
   | (with_reducible exact LeO.refl _)
   | (with_reducible exact LeO.none _)
   | (with_reducible refine LeO.ite ?_ ?_)
   | (with_reducible refine LeO.bind ?_ (fun _ => ?_))
   | exact ih0 _ _ _ _ _ _
   | exact ih1 _ _ _ _ _ _ _ _ _ _ _
   | exact ih2 _ _ _ _ _ _ _ _
   | exact ih3 _ _ _ _ _ _ _ _ _ _
   | exact ih4 _ _ _ _ _ _ _ _
   | exact merge_groups.mono _ _
   | exact LeO.none _
   | refine LeO.ite ?_ ?_
   | refine LeO.bind ?_ (fun _ => ?_)
set_option maxHeartbeats 8000000 in
set_option maxRecDepth 100000 in
theorem merge_Thin.calls (k : Nat) (A0 : Option Addr) (c0 : Nat) (l0 : List (S36)) (A1 : Option Addr) (c1 : Nat) (l1 : List Int) (a2 : Bool) (r : List (S36)) (w : World) (hr0 : Kd.C k36 w A0 l0.length l0) (hc0 : l0.length ≤ c0) (hr1 : Kd.C (Kd.int .i64) w A1 l1.length l1) (hc1 : l1.length ≤ c1) (h : merge_Thin.f k l0 l1 a2 = some r) :
  Calls Try.prog 16 #[.slice A0 l0.length c0, .slice A1 l1.length c1, .bool a2] w fun e w' => ∃ v0_ : Value, e = .returned (v0_) ∧ Kd.R k36 36 w' w.heap.size (fun _ => True) v0_ r ∧ Below w.heap.size w w' := by
 have hu36 := Try.underlying36
 have HR0 := Aside0.mk hr0
 have HC0 := Aside0.mk hc0
 clear hr0 hc0
 have HR1 := Aside0.mk hr1
 have HC1 := Aside0.mk hc1
 clear hr1 hc1
 have HB := Aside0.mk (Below.refl w.heap.size w)
 have H : ((merge_groups.f k l0).bind fun t214 => (merge_Thin.l0 k l1 a2 ([] : List (S36)) t214 (t214.length : Int) 0)) = some r := h
 clear h
 replace H := Option.bind_eq_some_iff.mp H
 obtain ⟨t214, A40, H⟩ := H
 replace H : (merge_Thin.l0 k l1 a2 ([] : List (S36)) t214 (t214.length : Int) 0) = some r := H
 have A4 := Aside0.mk A40
 clear A40
 have H' := Aside0.mk H
 clear H
 go_enter Try.func16, Try.ntmps16
 go_wp2_with (first | ((with_reducible refine gate_callee (f := 28) rfl ?_); refine goesL_ (some 17) rfl rfl Try.func28 (by kernel_rfl) rfl #[.slice A0 l0.length c0] rfl (by (try simp only [List.map_toArray, List.map_cons, List.map_nil]); first | done | rfl | (simp only [List.length_drop, List.length_take]; rfl)) ?_; (with_reducible refine (merge_groups.calls k (fun k_ => k_ < w.heap.size) _ _ l0 t214 _ ?side1 A4.out).mono ?_); (case side1 => exact Kd.V_mk HC0.out (Kd.F_below (Kd.C_F k36_heap HR0.out) HB.out)); rintro e w5 ⟨v215, rfl, ho0, hb⟩; refine ⟨_, rfl, ?_⟩; have n0_ := Aside0.mk (Kd.N_lower (Kd.N_mono (ok' := fun k_ => True) ho0 (fun k_ hk_ => trivial)) (below_size HB.out)); have n1_ := Aside0.mk (below_step HB.out hb); clear HB; have HO216 := n0_; have HB := n1_; clear n0_ n1_; (try clear hb); (try clear hb2); (try clear hk); (try clear hi); (try clear ho0); obtain ⟨Ao6, co6, eo6⟩ := Kd.N_slice HO216.out; subst eo6))
 go_loopg [7, 19] k (fun kq v7 v19 w' => ∃ (x7_1 : List (S36)) (x19_1 : Int), v19 = .int .i64 x19_1 ∧ Aside0 (merge_Thin.l0 kq l1 a2 x7_1 t214 (t214.length : Int) x19_1 = some r) ∧ Aside0 (kq ≤ k) ∧ Aside0 (Kd.R k36 36 w' w.heap.size (fun _ => True) v7 x7_1) ∧ Aside0 (Kd.N (Kd.slice 36 k36) 27 w' w.heap.size (fun k_ => some k_ ≠ (v7 : Value).ownBlock) (.slice Ao6 t214.length co6) t214) ∧ Aside0 (Below w.heap.size w w'))
 case atStart => exact ⟨(([] : List (S36))), (0), (by first | rfl | (simp; done) | (simp [*]; done)), H', ⟨Nat.le_refl _⟩, ⟨by first | exact Kd.R_nil _ _ _ _ _ | exact Kd.N_nil _ _ _ _ _ | exact Kd.V_nil _ _ _ _ _ | exact Kd.Q_nil _ _ _ _ _ | exact Kd.S_nil _ _ _ _ _⟩, ⟨by (with_reducible repeat (first | apply Kd.N_alloc | apply Kd.N_drewN | apply Kd.N_drew)); exact Kd.N_mono HO216.out (fun _ hk => (by simp [Value.ownBlock]))⟩, ⟨by repeat (first | (with_reducible first | exact HB.out | apply below_alloc | apply pw_below_drewN | apply below_drew1) | exact HB.out)⟩⟩
 case round =>
  clear H'
  try clear c1
  try clear c2
  try clear p2
  obtain ⟨x7_1, x19_1, rfl, HA, HK1, HO_7, HO_17, HB⟩ := hrel
  cases gk with
  | zero => exact absurd HA.out (by simp [merge_Thin.l0])
  | succ k1 =>
   have H := HA.out
   clear HA
   simp only [merge_Thin.l0] at H
   by_cases c7 : x19_1 < (t214.length : Int)
   ·rw [if_pos c7] at H
    have c7b0 : decide (x19_1 < (t214.length : Int)) = true := decide_eq_true c7
    clear c7
    by_cases c8 : 0 ≤ x19_1
    ·rw [if_pos c8] at H
     have c8b0 : decide (0 ≤ x19_1) = true := decide_eq_true c8
     clear c8
     by_cases c9 : x19_1 < (t214.length : Int)
     ·rw [if_pos c9] at H
      have c9b0 : decide (x19_1 < (t214.length : Int)) = true := decide_eq_true c9
      clear c9
      obtain ⟨y218, hy218⟩ : ∃ y_ : List Int, y_ = (([0] : List Int)) := ⟨_, rfl⟩
      replace H : (merge_Thin.l1 k1 l1 a2 x7_1 (rd_L4 t214 x19_1) y218 t214 (t214.length : Int) x19_1 l1 (l1.length : Int) 0) = some r := by first | (rw [hy218]; with_reducible exact H) | (have H2_ := (Option.bind_some _ _).symm.trans H; rw [hy218]; with_reducible exact H2_) | (have H2_ := (Option.bind_some _ _).symm.trans H; with_reducible exact H2_) | with_reducible exact H | (rw [hy218]; exact H) | exact H
      have Ny218 := Aside0.mk hy218
      clear hy218
      have H' := Aside0.mk H
      clear H
      have p217 : 0 ≤ (x19_1 : Int) := of_decide_eq_true (by first | (with_reducible assumption) | assumption)
      have q217 : x19_1 < (t214.length : Int) := of_decide_eq_true (by first | (with_reducible assumption) | assumption)
      obtain ⟨ad217, A217_0, c217_0, e217, hx217_0, hl217_0, hi217_0⟩ := at_L4 (Kd.N_reads' HO_17.out).2.2 x19_1 p217 q217
      cases e217
      obtain ⟨ce217, hce217, hMe217, hcc217⟩ := Kd.N_get HO_17.out [] x19_1 p217 (by first | exact q217 | exact of_decide_eq_true (by first | (with_reducible assumption) | assumption) | (have e_ := (Kd.N_reads' HO_17.out).1; omega))
      obtain ⟨ua217_0, uc217_0, rfl, ul217_0, ge217_0⟩ := Kd.FK_slice_open hMe217
      have hv217_0 := hcc217 0 _ rfl
      rw [Nat.add_zero, show ((Kd.slice 36 k36)).sz = 1 from rfl, Nat.mul_one] at hv217_0
      replace hv217_0 := Option.some.inj (hv217_0.symm.trans hx217_0)
      injection hv217_0 with hva_ hvn_ hvc_
      rw [hva_] at ge217_0
      rw [hvc_] at ul217_0
      have HL217_0 := Aside0.mk (show Kd.V k36 36 _ w.heap.size _ _ (rd_L4 t214 x19_1) from Kd.V_mk ul217_0 ge217_0)
      clear hva_ hvn_ hvc_ ge217_0 ul217_0
      clear hcc217 hce217
      have HR217_0 := Aside0.mk hi217_0
      have HC217_0 := Aside0.mk hl217_0
      clear hi217_0 hl217_0
      replace p217 := eq_true p217
      replace q217 := eq_true q217
      go_wp2_with (first | ((with_reducible refine gate_dst (N := 23) rfl ?_); (try (refine gate_guard (by rfl) ?_; dsimp only)); refine Kd.R_lit (Kd.int .i64) _ 3 ?hg (N := 23) ?hd (xs := ([0] : List Int)) (inner := [.int .i64 0]) (ok := fun _ => True) (okp := fun _ => True) ?hr ?hp (fun _ hk => hk) trivial (Below.refl _ _) (Nat.le_refl _) (by simp) ?_; (case hd => rfl); (case hg => rfl); (case hr => first | (go_simp; done) | (go_simp; rfl)); (case hp => exact (Reps.one (show Kd.M (Kd.int .i64) _ _ _ 0 [.int .i64 0] from rfl) (Reps.none _ _))); intro v219 w10 ho11 hb hg_ hnew_; clear hg_ hnew_; (first | rw [← Ny218.out] at ho11 | (simp only [Int.reduceToNat] at ho11; rw [← Ny218.out] at ho11)); have n0_ := Aside0.mk (Kd.R_below HO_7.out hb); have n1_ := Aside0.mk (Kd.N_elder' HO_17.out (Kd.R_base ho11) hb); have n2_ := Aside0.mk (Kd.V_elder' HL217_0.out (Kd.R_base ho11) hb); have n3_ := Aside0.mk (Kd.R_lower ho11 (below_size HB.out)); have n4_ := Aside0.mk (Kd.C_below HR217_0.out hb); have n5_ := Aside0.mk (below_step HB.out hb); clear HO_7; clear HO_17; clear HL217_0; clear HR217_0; clear HB; have HO_7 := n0_; have HO_17 := n1_; have HL217_0 := n2_; have HO220 := n3_; have HR217_0 := n4_; have HB := n5_; clear n0_ n1_ n2_ n3_ n4_ n5_; clear hb ho11))
      go_loopg [10, 26] k1 (fun kq v10 v26 w' => ∃ (x10_2 : List Int) (x26_2 : Int), v26 = .int .i64 x26_2 ∧ Aside0 (merge_Thin.l1 kq l1 a2 x7_1 (rd_L4 t214 x19_1) x10_2 t214 (t214.length : Int) x19_1 l1 (l1.length : Int) x26_2 = some r) ∧ Aside0 (kq ≤ k1) ∧ Aside0 (Kd.R k36 36 w' w.heap.size (fun _ => True) u7 x7_1) ∧ Aside0 (Kd.V k36 36 w' w.heap.size (fun k_ => some k_ ≠ (u7 : Value).ownBlock ∧ some k_ ≠ (v10 : Value).ownBlock ∧ some k_ ≠ ((.slice (some ad217) t214.length co6) : Value).ownBlock) (.slice A217_0 (rd_L4 t214 x19_1).length c217_0) (rd_L4 t214 x19_1)) ∧ Aside0 (Kd.R (Kd.int .i64) 3 w' w.heap.size (fun _ => True) v10 x10_2) ∧ Aside0 (Kd.N (Kd.slice 36 k36) 27 w' w.heap.size (fun k_ => some k_ ≠ (u7 : Value).ownBlock ∧ some k_ ≠ (v10 : Value).ownBlock) (.slice (some ad217) t214.length co6) t214) ∧ Aside0 (Below w.heap.size w w'))
      case atStart => exact ⟨(y218), (0), (by first | rfl | (simp; done) | (simp [*]; done)), H', ⟨Nat.le_refl _⟩, ⟨by (with_reducible repeat (first | apply Kd.R_alloc | apply Kd.R_drewN | apply Kd.R_drew)); exact HO_7.out⟩, ⟨by (with_reducible repeat (first | apply Kd.V_alloc | apply Kd.V_drewN | apply Kd.V_drew)); exact Kd.V_mono HL217_0.out (fun _ hk => ⟨hk.1.1, ⟨hk.2, hk.1.2⟩⟩)⟩, ⟨by (with_reducible repeat (first | apply Kd.R_alloc | apply Kd.R_drewN | apply Kd.R_drew)); exact HO220.out⟩, ⟨by (with_reducible repeat (first | apply Kd.N_alloc | apply Kd.N_drewN | apply Kd.N_drew)); exact HO_17.out⟩, ⟨by repeat (first | (with_reducible first | exact HB.out | apply below_alloc | apply pw_below_drewN | apply below_drew1) | exact HB.out)⟩⟩
      case round =>
       clear H'
       try clear c1
       try clear c2
       try clear p2
       try clear q2
       try clear hx2
       try clear c7
       try clear c7b0
       try clear c8
       try clear c8b0
       try clear c9
       try clear c9b0
       try clear hx217_0
       try clear p2
       try clear p217
       try clear q217
       obtain ⟨x10_2, x26_2, rfl, HA, HK2, HO_7, HO_9, HO_10, HO_17, HB⟩ := hrel
       cases gk with
       | zero => exact absurd HA.out (by simp [merge_Thin.l1])
       | succ k2 =>
        have H := HA.out
        clear HA
        simp only [merge_Thin.l1] at H
        by_cases c12 : x26_2 < (l1.length : Int)
        ·rw [if_pos c12] at H
         have c12b0 : decide (x26_2 < (l1.length : Int)) = true := decide_eq_true c12
         clear c12
         by_cases c13 : 0 ≤ x26_2
         ·rw [if_pos c13] at H
          have c13b0 : decide (0 ≤ x26_2) = true := decide_eq_true c13
          clear c13
          by_cases c14 : x26_2 < (l1.length : Int)
          ·rw [if_pos c14] at H
           have c14b0 : decide (x26_2 < (l1.length : Int)) = true := decide_eq_true c14
           clear c14
           replace H := Option.bind_eq_some_iff.mp H
           obtain ⟨t222, A150, H⟩ := H
           replace H : (if t222 ≥ 0 then (if x10_2.length < 17592186044416 then (merge_Thin.l1 k2 l1 a2 x7_1 (rd_L4 t214 x19_1) (x10_2 ++ [t222]) t214 (t214.length : Int) x19_1 l1 (l1.length : Int) (wrap64 (x26_2 + 1))) else (none)) else (merge_Thin.l1 k2 l1 a2 x7_1 (rd_L4 t214 x19_1) x10_2 t214 (t214.length : Int) x19_1 l1 (l1.length : Int) (wrap64 (x26_2 + 1)))) = some r := H
           have A15 := Aside0.mk A150
           clear A150
           by_cases c16 : t222 ≥ 0
           ·rw [if_pos c16] at H
            have c16b0 : decide (0 ≤ t222) = true := decide_eq_true c16
            clear c16
            by_cases c17 : x10_2.length < 17592186044416
            ·rw [if_pos c17] at H
             have LMc17 := Aside0.mk c17
             clear c17
             obtain ⟨y223, hy223⟩ : ∃ y_ : List Int, y_ = (x10_2 ++ [t222]) := ⟨_, rfl⟩
             replace H : (merge_Thin.l1 k2 l1 a2 x7_1 (rd_L4 t214 x19_1) y223 t214 (t214.length : Int) x19_1 l1 (l1.length : Int) (wrap64 (x26_2 + 1))) = some r := by first | (rw [hy223]; with_reducible exact H) | (have H2_ := (Option.bind_some _ _).symm.trans H; rw [hy223]; with_reducible exact H2_) | (have H2_ := (Option.bind_some _ _).symm.trans H; with_reducible exact H2_) | with_reducible exact H | (rw [hy223]; exact H) | exact H
             have Ny223 := Aside0.mk hy223
             clear hy223
             have H' := Aside0.mk H
             clear H
             have p221 : 0 ≤ (x26_2 : Int) := of_decide_eq_true (by first | (with_reducible assumption) | assumption)
             have q221 : x26_2 < (l1.length : Int) := of_decide_eq_true (by first | (with_reducible assumption) | assumption)
             obtain ⟨ad221, e221, hx221_0⟩ := Kd.at_int HR1.out x26_2 p221 q221
             cases e221
             replace hx221_0 := (HB.out.cell (World.block_lt_of_cell? w _ hx221_0)).trans hx221_0
             replace p221 := eq_true p221
             replace q221 := eq_true q221
             go_wp2_with (first | ((with_reducible refine gate_callee (f := 29) rfl ?_); refine goesL_ (some 32) rfl rfl Try.func29 (by kernel_rfl) rfl #[.slice A217_0 (rd_L4 t214 x19_1).length c217_0, .int .i64 (rd l1 x26_2)] rfl (by (try simp only [List.map_toArray, List.map_cons, List.map_nil]); first | done | rfl | (simp only [List.length_drop, List.length_take]; rfl)) ?_; (with_reducible refine (merge_newest.calls _ _ (rd_L4 t214 x19_1) (rd l1 x26_2) t222 _ ?side1 ?side2 A15.out).mono ?_); (case side1 => repeat (first | exact (Kd.V_reads' HO_9.out).2.2 | (with_reducible refine Kd.C_alloc ?_ _) | (with_reducible refine Kd.C_drewN ?_ _) | (with_reducible refine Kd.C_drew ?_))); (case side2 => exact (Kd.V_reads' HO_9.out).2.1); rintro e w18 ⟨rfl, hb⟩; refine ⟨_, rfl, ?_⟩; have n0_ := Aside0.mk (Kd.R_below HO_7.out hb); have n1_ := Aside0.mk (Kd.V_below HO_9.out hb); have n2_ := Aside0.mk (Kd.R_below HO_10.out hb); have n3_ := Aside0.mk (Kd.N_below HO_17.out hb); have n4_ := Aside0.mk (below_step HB.out hb); clear HO_7; clear HO_9; clear HO_10; clear HO_17; clear HB; have HO_7 := n0_; have HO_9 := n1_; have HO_10 := n2_; have HO_17 := n3_; have HB := n4_; clear n0_ n1_ n2_ n3_ n4_; (try clear hb); (try clear hb2); (try clear hk); (try clear hi)) | ((with_reducible refine gate_builtin (b := .append) (xs := #[.tmp 35, .tmp 37]) rfl ?_); (try (refine gate_guard (by rfl) ?_; dsimp only)); at_builtin; refine Kd.R_append (Kd.int .i64) (w0 := w) w.heap.size rfl (.tmp 35) (.tmp 37) 23 3 (.int .i64 0) 8 rfl Try.underlying23 info3 rfl (by decide) (by omega) u10 x10_2 t222 [.int .i64 t222] (fun _ => True) (fun _ => False) rfl rfl ?aP (fun _ hk => hk.elim) ?aF ?aO ?aB ?aS ?aL ?_; (case aP => exact rfl); (case aB => exact HB.out); (case aF => exact (fun _ _ => trivial)); (case aO => exact HO_10.out); (case aS => exact (below_size HB.out)); (case aL => have := LMc17.out; omega); intro v224 w19 ho hb hg hat; rw [← Ny223.out] at ho; have n0_ := Aside0.mk (Kd.R_over' HO_7.out (Kd.R_typed HO_10.out) (by decide) hg); have n1_ := Aside0.mk (Kd.V_afterv (ok := (fun k_ => some k_ ≠ (u7 : Value).ownBlock ∧ some k_ ≠ (.slice (some ad217) t214.length co6 : Value).ownBlock)) (by (with_reducible repeat (first | apply Kd.V_alloc | apply Kd.V_drewN | apply Kd.V_drew)); exact Kd.V_mono HO_9.out (fun _ hk => ⟨⟨hk.1, hk.2.2⟩, hk.2.1⟩)) hg hat); have n2_ := Aside0.mk (Kd.N_afterv (ok := (fun k_ => some k_ ≠ (u7 : Value).ownBlock)) HO_17.out hg hat); have n3_ := Aside0.mk (hb); have n4_ := Aside0.mk (ho); clear HO_7; clear HO_9; clear HO_17; clear HB; clear HO_10; have HO_7 := n0_; have HO_9 := n1_; have HO_17 := n2_; have HB := n3_; have HO225 := n4_; clear n0_ n1_ n2_ n3_ n4_; clear ho hb hg hat))
             go_roundg k2
             case measure => have := HK1.out; have := HK2.out; omega
             case rel => exact ⟨(y223), (wrap64 (x26_2 + 1)), (by first | rfl | (simp; done) | (simp [*]; done)), H', ⟨by have := HK1.out; have := HK2.out; omega⟩, ⟨by (with_reducible repeat (first | apply Kd.R_alloc | apply Kd.R_drewN | apply Kd.R_drew)); exact HO_7.out⟩, ⟨by (with_reducible repeat (first | apply Kd.V_alloc | apply Kd.V_drewN | apply Kd.V_drew)); exact Kd.V_mono HO_9.out (fun _ hk => ⟨hk.1.1, ⟨hk.2, hk.1.2⟩⟩)⟩, ⟨by (with_reducible repeat (first | apply Kd.R_alloc | apply Kd.R_drewN | apply Kd.R_drew)); exact HO225.out⟩, ⟨by (with_reducible repeat (first | apply Kd.N_alloc | apply Kd.N_drewN | apply Kd.N_drew)); exact HO_17.out⟩, ⟨by repeat (first | (with_reducible first | exact HB.out | apply below_alloc | apply pw_below_drewN | apply below_drew1) | exact HB.out)⟩⟩
            ·rw [if_neg c17] at H
             exact absurd H (by simp)
           ·rw [if_neg c16] at H
            have c16b0 : decide (0 ≤ t222) = false := decide_eq_false c16
            clear c16
            have H' := Aside0.mk H
            clear H
            have p221 : 0 ≤ (x26_2 : Int) := of_decide_eq_true (by first | (with_reducible assumption) | assumption)
            have q221 : x26_2 < (l1.length : Int) := of_decide_eq_true (by first | (with_reducible assumption) | assumption)
            obtain ⟨ad221, e221, hx221_0⟩ := Kd.at_int HR1.out x26_2 p221 q221
            cases e221
            replace hx221_0 := (HB.out.cell (World.block_lt_of_cell? w _ hx221_0)).trans hx221_0
            replace p221 := eq_true p221
            replace q221 := eq_true q221
            go_wp2_with (first | ((with_reducible refine gate_callee (f := 29) rfl ?_); refine goesL_ (some 32) rfl rfl Try.func29 (by kernel_rfl) rfl #[.slice A217_0 (rd_L4 t214 x19_1).length c217_0, .int .i64 (rd l1 x26_2)] rfl (by (try simp only [List.map_toArray, List.map_cons, List.map_nil]); first | done | rfl | (simp only [List.length_drop, List.length_take]; rfl)) ?_; (with_reducible refine (merge_newest.calls _ _ (rd_L4 t214 x19_1) (rd l1 x26_2) t222 _ ?side1 ?side2 A15.out).mono ?_); (case side1 => repeat (first | exact (Kd.V_reads' HO_9.out).2.2 | (with_reducible refine Kd.C_alloc ?_ _) | (with_reducible refine Kd.C_drewN ?_ _) | (with_reducible refine Kd.C_drew ?_))); (case side2 => exact (Kd.V_reads' HO_9.out).2.1); rintro e w20 ⟨rfl, hb⟩; refine ⟨_, rfl, ?_⟩; have n0_ := Aside0.mk (Kd.R_below HO_7.out hb); have n1_ := Aside0.mk (Kd.V_below HO_9.out hb); have n2_ := Aside0.mk (Kd.R_below HO_10.out hb); have n3_ := Aside0.mk (Kd.N_below HO_17.out hb); have n4_ := Aside0.mk (below_step HB.out hb); clear HO_7; clear HO_9; clear HO_10; clear HO_17; clear HB; have HO_7 := n0_; have HO_9 := n1_; have HO_10 := n2_; have HO_17 := n3_; have HB := n4_; clear n0_ n1_ n2_ n3_ n4_; (try clear hb); (try clear hb2); (try clear hk); (try clear hi)))
            go_roundg k2
            case measure => have := HK1.out; have := HK2.out; omega
            case rel => exact ⟨(x10_2), (wrap64 (x26_2 + 1)), (by first | rfl | (simp; done) | (simp [*]; done)), H', ⟨by have := HK1.out; have := HK2.out; omega⟩, ⟨by (with_reducible repeat (first | apply Kd.R_alloc | apply Kd.R_drewN | apply Kd.R_drew)); exact HO_7.out⟩, ⟨by (with_reducible repeat (first | apply Kd.V_alloc | apply Kd.V_drewN | apply Kd.V_drew)); exact HO_9.out⟩, ⟨by (with_reducible repeat (first | apply Kd.R_alloc | apply Kd.R_drewN | apply Kd.R_drew)); exact HO_10.out⟩, ⟨by (with_reducible repeat (first | apply Kd.N_alloc | apply Kd.N_drewN | apply Kd.N_drew)); exact HO_17.out⟩, ⟨by repeat (first | (with_reducible first | exact HB.out | apply below_alloc | apply pw_below_drewN | apply below_drew1) | exact HB.out)⟩⟩
          ·rw [if_neg c14] at H
           exact absurd H (by simp)
         ·rw [if_neg c13] at H
          exact absurd H (by simp)
        ·rw [if_neg c12] at H
         have c12b0 : decide (x26_2 < (l1.length : Int)) = false := decide_eq_false c12
         clear c12
         replace H := Option.bind_eq_some_iff.mp H
         obtain ⟨t226, A210, H⟩ := H
         replace H : ((slices_Compact_int_int.f t226).bind fun t227 => (merge_Thin.l2 k2 l1 a2 x7_1 (rd_L4 t214 x19_1) t227 t214 (t214.length : Int) x19_1)) = some r := H
         have A21 := Aside0.mk A210
         clear A210
         replace H := Option.bind_eq_some_iff.mp H
         obtain ⟨t227, A220, H⟩ := H
         replace H : (merge_Thin.l2 k2 l1 a2 x7_1 (rd_L4 t214 x19_1) t227 t214 (t214.length : Int) x19_1) = some r := H
         have A22 := Aside0.mk A220
         clear A220
         have HC23 := Aside0.mk H
         clear H
         obtain ⟨Ao24, co24, eo24⟩ := Kd.R_slice HO_10.out
         subst eo24
         go_upto_block 4 with (first | ((with_reducible refine gate_callee (f := 31) rfl ?_); refine goesL_ (some 41) rfl rfl Try.func31 (by kernel_rfl) rfl #[.slice Ao24 x10_2.length co24] rfl (by (try simp only [List.map_toArray, List.map_cons, List.map_nil]); first | done | rfl | (simp only [List.length_drop, List.length_take]; rfl)) ?_; (with_reducible refine (slices_Sort_int_int.calls (fun k_ => some k_ = (.slice Ao24 x10_2.length co24 : Value).ownBlock) (.slice Ao24 x10_2.length co24) x10_2 t226 w _ ?side1 ?side2 A21.out).mono ?_); (case side1 => repeat (first | (with_reducible first | exact HB.out | apply below_alloc | apply pw_below_drewN | apply below_drew1) | exact HB.out)); (case side2 => exact Kd.R_tight rfl HO_10.out); rintro e w25 ⟨rfl, hy0, hb, hkp⟩; refine ⟨_, rfl, ?_⟩; have n0_ := Aside0.mk (Kd.R_mono (ok' := fun k_ => True) (Kd.R_keptB ((Kd.R_apart' HO_7.out (Kd.R_typed HO_10.out) (by decide))) hkp (fun k_ hk_ hs_ => (hk_.2) hs_)) (fun k_ hk_ => trivial)); have n1_ := Aside0.mk (Kd.V_mono (ok' := fun k_ => some k_ ≠ (u7 : Value).ownBlock ∧ some k_ ≠ (.slice Ao24 x10_2.length co24 : Value).ownBlock ∧ some k_ ≠ (.slice (some ad217) t214.length co6 : Value).ownBlock) (Kd.V_keptB (HO_9.out) hkp (fun k_ hk_ hs_ => (hk_.2.1) hs_)) (fun k_ hk_ => ⟨hk_.1.1, hk_.1.2.1, hk_.1.2.2⟩)); have n2_ := Aside0.mk (Kd.R_reok rfl hy0 (fun k_ e_ => HO_10.out.1 k_ e_)); have n3_ := Aside0.mk (Kd.N_mono (ok' := fun k_ => some k_ ≠ (u7 : Value).ownBlock ∧ some k_ ≠ (.slice Ao24 x10_2.length co24 : Value).ownBlock) (Kd.N_keptB (HO_17.out) hkp (fun k_ hk_ hs_ => (hk_.2) hs_)) (fun k_ hk_ => ⟨hk_.1.1, hk_.1.2⟩)); have n4_ := Aside0.mk (hb); clear HO_7; clear HO_9; clear HO_10; clear HO_17; clear HB; have HO_7 := n0_; have HO_9 := n1_; have HO_10 := n2_; have HO_17 := n3_; have HB := n4_; clear n0_ n1_ n2_ n3_ n4_; (try clear hb); (try clear hkp); (try clear hy0)) | ((with_reducible refine gate_callee (f := 32) rfl ?_); refine goesL_ (some 43) rfl rfl Try.func32 (by kernel_rfl) rfl #[.slice Ao24 x10_2.length co24] rfl (by (try simp only [List.map_toArray, List.map_cons, List.map_nil]); first | done | rfl | (simp only [List.length_drop, List.length_take]; rfl)) ?_; (with_reducible refine (slices_Compact_int_int.calls (fun k_ => some k_ = (.slice Ao24 x10_2.length co24 : Value).ownBlock) (.slice Ao24 x10_2.length co24) t226 t227 w _ ?side1 ?side2 A22.out).mono ?_); (case side1 => repeat (first | (with_reducible first | exact HB.out | apply below_alloc | apply pw_below_drewN | apply below_drew1) | exact HB.out)); (case side2 => exact Kd.R_tight rfl HO_10.out); rintro e w26 ⟨v228, rfl, ho0, hb, hkp⟩; refine ⟨_, rfl, ?_⟩; have n0_ := Aside0.mk (Kd.R_mono (ok' := fun k_ => True) (Kd.R_keptB ((Kd.R_apart' HO_7.out (Kd.R_typed HO_10.out) (by decide))) hkp (fun k_ hk_ hs_ => (hk_.2) hs_)) (fun k_ hk_ => trivial)); have n1_ := Aside0.mk (Kd.V_mono (ok' := fun k_ => some k_ ≠ (u7 : Value).ownBlock ∧ some k_ ≠ (.slice (some ad217) t214.length co6 : Value).ownBlock ∧ some k_ ≠ (v228 : Value).ownBlock) (Kd.V_keptB (HO_9.out) hkp (fun k_ hk_ hs_ => (hk_.2.1) hs_)) (fun k_ hk_ => ⟨hk_.1.1, hk_.1.2.2, fun e_ => Or.elim (ho0.1 k_ e_.symm) (fun hs_ => hk_.2.1 hs_) (fun hn_ => Nat.not_le.2 hk_.2.2 hn_)⟩)); have n2_ := Aside0.mk (Kd.N_mono (ok' := fun k_ => some k_ ≠ (u7 : Value).ownBlock ∧ some k_ ≠ (v228 : Value).ownBlock) (Kd.N_keptB (HO_17.out) hkp (fun k_ hk_ hs_ => (hk_.2) hs_)) (fun k_ hk_ => ⟨hk_.1.1, fun e_ => Or.elim (ho0.1 k_ e_.symm) (fun hs_ => hk_.2.1 hs_) (fun hn_ => Nat.not_le.2 hk_.2.2 hn_)⟩)); have n3_ := Aside0.mk (Kd.R_mono (ok' := fun k_ => True) ho0 (fun k_ hk_ => trivial)); have n4_ := Aside0.mk (hb); clear HO_7; clear HO_9; clear HO_17; clear HB; clear HO_10; have HO_7 := n0_; have HO_9 := n1_; have HO_17 := n2_; have HO229 := n3_; have HB := n4_; clear n0_ n1_ n2_ n3_ n4_; (try clear hb); (try clear hkp); (try clear ho0)))
         (try simp only [Act.put, List.setIfInBounds_toArray, List.set_cons_zero, List.set_cons_succ])
         go_cut [10] (fun v10 wc => ∃ (kq : Nat) (x10_22 : List Int), Aside0 (merge_Thin.j3 kq l1 a2 x7_1 (rd_L4 t214 x19_1) x10_22 t214 (t214.length : Int) x19_1 = some r) ∧ Aside0 (kq ≤ k2) ∧ Aside0 (Kd.R k36 36 wc w.heap.size (fun _ => True) u7 x7_1) ∧ Aside0 (Kd.V k36 36 wc w.heap.size (fun k_ => some k_ ≠ (u7 : Value).ownBlock ∧ some k_ ≠ (v10 : Value).ownBlock ∧ some k_ ≠ ((.slice (some ad217) t214.length co6) : Value).ownBlock) (.slice A217_0 (rd_L4 t214 x19_1).length c217_0) (rd_L4 t214 x19_1)) ∧ Aside0 (Kd.R (Kd.int .i64) 3 wc w.heap.size (fun _ => True) v10 x10_22) ∧ Aside0 (Kd.N (Kd.slice 36 k36) 27 wc w.heap.size (fun k_ => some k_ ≠ (u7 : Value).ownBlock ∧ some k_ ≠ (v10 : Value).ownBlock) (.slice (some ad217) t214.length co6) t214) ∧ Aside0 (Below w.heap.size w wc))
         case first =>
          have H := HC23.out
          clear HC23
          have H' := Aside0.mk H
          clear H
          go_wp2
          go_loopg [10] k2 (fun kq v10 w' => ∃ (x10_3 : List Int), Aside0 (merge_Thin.l2 kq l1 a2 x7_1 (rd_L4 t214 x19_1) x10_3 t214 (t214.length : Int) x19_1 = some r) ∧ Aside0 (kq ≤ k2) ∧ Aside0 (Kd.R k36 36 w' w.heap.size (fun _ => True) u7 x7_1) ∧ Aside0 (Kd.V k36 36 w' w.heap.size (fun k_ => some k_ ≠ (u7 : Value).ownBlock ∧ some k_ ≠ (v10 : Value).ownBlock ∧ some k_ ≠ ((.slice (some ad217) t214.length co6) : Value).ownBlock) (.slice A217_0 (rd_L4 t214 x19_1).length c217_0) (rd_L4 t214 x19_1)) ∧ Aside0 (Kd.R (Kd.int .i64) 3 w' w.heap.size (fun _ => True) v10 x10_3) ∧ Aside0 (Kd.N (Kd.slice 36 k36) 27 w' w.heap.size (fun k_ => some k_ ≠ (u7 : Value).ownBlock ∧ some k_ ≠ (v10 : Value).ownBlock) (.slice (some ad217) t214.length co6) t214) ∧ Aside0 (Below w.heap.size w w'))
          case atStart => exact ⟨(t227), H', ⟨Nat.le_refl _⟩, ⟨by (with_reducible repeat (first | apply Kd.R_alloc | apply Kd.R_drewN | apply Kd.R_drew)); exact HO_7.out⟩, ⟨by (with_reducible repeat (first | apply Kd.V_alloc | apply Kd.V_drewN | apply Kd.V_drew)); exact Kd.V_mono HO_9.out (fun _ hk => ⟨hk.1, ⟨hk.2.2, hk.2.1⟩⟩)⟩, ⟨by (with_reducible repeat (first | apply Kd.R_alloc | apply Kd.R_drewN | apply Kd.R_drew)); exact HO229.out⟩, ⟨by (with_reducible repeat (first | apply Kd.N_alloc | apply Kd.N_drewN | apply Kd.N_drew)); exact HO_17.out⟩, ⟨by repeat (first | (with_reducible first | exact HB.out | apply below_alloc | apply pw_below_drewN | apply below_drew1) | exact HB.out)⟩⟩
          case round =>
           clear H'
           try clear c1
           try clear c2
           try clear p2
           try clear q2
           try clear hx2
           try clear c3
           try clear p6
           try clear c7
           try clear c7b0
           try clear c8
           try clear c8b0
           try clear c9
           try clear c9b0
           try clear c12
           try clear c12b0
           try clear c13
           try clear c13b0
           try clear c14
           try clear c14b0
           try clear c16
           try clear c16b0
           try clear c17
           try clear c21
           try clear p21
           try clear q21
           try clear hx21
           try clear p22
           try clear q22
           try clear hx22
           try clear hx217_0
           try clear hx221_0
           try clear p2
           try clear p217
           try clear p221
           try clear q2
           try clear q217
           try clear q221
           obtain ⟨x10_3, HA, HK3, HO_7, HO_9, HO_10, HO_17, HB⟩ := hrel
           cases gk with
           | zero => exact absurd HA.out (by simp [merge_Thin.l2])
           | succ k3 =>
            have H := HA.out
            clear HA
            simp only [merge_Thin.l2] at H
            by_cases c27 : a2 = true
            ·subst c27
             have H1 : (if (x10_3.length : Int) > 0 then (if 0 ≤ (wrap64 ((x10_3.length : Int) - 1)) then (if (wrap64 ((x10_3.length : Int) - 1)) < (x10_3.length : Int) then (if 0 ≤ (rd x10_3 (wrap64 ((x10_3.length : Int) - 1))) then (if (rd x10_3 (wrap64 ((x10_3.length : Int) - 1))) < ((rd_L4 t214 x19_1).length : Int) then (if (rd_T36 (rd_L4 t214 x19_1) (rd x10_3 (wrap64 ((x10_3.length : Int) - 1)))).f2 = true then (if (wrap64 ((x10_3.length : Int) - 1)) ≤ (x10_3.length : Int) then (merge_Thin.l2 k3 l1 true x7_1 (rd_L4 t214 x19_1) (x10_3.take ((wrap64 ((x10_3.length : Int) - 1)) : Int).toNat) t214 (t214.length : Int) x19_1) else (none)) else (merge_Thin.j3 k3 l1 true x7_1 (rd_L4 t214 x19_1) x10_3 t214 (t214.length : Int) x19_1)) else (none)) else (none)) else (none)) else (none)) else (merge_Thin.j3 k3 l1 true x7_1 (rd_L4 t214 x19_1) x10_3 t214 (t214.length : Int) x19_1)) = some r := by rw [if_pos rfl] at H; exact H
             clear H
             have H := H1
             clear H1
             by_cases c28 : (x10_3.length : Int) > 0
             ·rw [if_pos c28] at H
              have c28b0 : decide (0 < (x10_3.length : Int)) = true := decide_eq_true c28
              have c28b1 : decide (0 < x10_3.length) = true := decide_eq_true (by omega)
              clear c28
              (first | rw [c28b0] | (simp only [i64_w, i32_w]; rw [c28b0]) | skip)
              obtain ⟨ji29, hji29⟩ : ∃ j_ : Int, (wrap64 ((x10_3.length : Int) - 1)) = j_ := ⟨_, rfl⟩
              replace H : (if 0 ≤ (ji29) then (if (ji29) < (x10_3.length : Int) then (if 0 ≤ (rd x10_3 (ji29)) then (if (rd x10_3 (ji29)) < ((rd_L4 t214 x19_1).length : Int) then (if (rd_T36 (rd_L4 t214 x19_1) (rd x10_3 (ji29))).f2 = true then (if (ji29) ≤ (x10_3.length : Int) then (merge_Thin.l2 k3 l1 true x7_1 (rd_L4 t214 x19_1) (x10_3.take ((ji29) : Int).toNat) t214 (t214.length : Int) x19_1) else (none)) else (merge_Thin.j3 k3 l1 true x7_1 (rd_L4 t214 x19_1) x10_3 t214 (t214.length : Int) x19_1)) else (none)) else (none)) else (none)) else (none)) = some r := by first | (rw [hji29] at H; exact H) | (simp only [hji29] at H ⊢; exact H)
              have hji29w : (IntKind.i64.wrap ((x10_3.length : Int) - 1)) = ji29 := (i64_w _).trans hji29
              by_cases c30 : 0 ≤ (ji29)
              ·rw [if_pos c30] at H
               have c30b0 : decide (0 ≤ (ji29)) = true := decide_eq_true c30
               clear c30
               by_cases c31 : (ji29) < (x10_3.length : Int)
               ·rw [if_pos c31] at H
                have c31b0 : decide ((ji29) < (x10_3.length : Int)) = true := decide_eq_true c31
                clear c31
                by_cases c32 : 0 ≤ (rd x10_3 (ji29))
                ·rw [if_pos c32] at H
                 have c32b0 : decide (0 ≤ (rd x10_3 (ji29))) = true := decide_eq_true c32
                 clear c32
                 by_cases c33 : (rd x10_3 (ji29)) < ((rd_L4 t214 x19_1).length : Int)
                 ·rw [if_pos c33] at H
                  have c33b0 : decide ((rd x10_3 (ji29)) < ((rd_L4 t214 x19_1).length : Int)) = true := decide_eq_true c33
                  clear c33
                  obtain ⟨bq34, hbq34⟩ : ∃ b_ : Bool, b_ = ((rd_T36 (rd_L4 t214 x19_1) (rd x10_3 (ji29))).f2) := ⟨_, rfl⟩
                  replace H : (if bq34 = true then (if (ji29) ≤ (x10_3.length : Int) then (merge_Thin.l2 k3 l1 true x7_1 (rd_L4 t214 x19_1) (x10_3.take ((ji29) : Int).toNat) t214 (t214.length : Int) x19_1) else (none)) else (merge_Thin.j3 k3 l1 true x7_1 (rd_L4 t214 x19_1) x10_3 t214 (t214.length : Int) x19_1)) = some r := by rw [← hbq34] at H; exact H
                  have Nbq34 := Aside0.mk hbq34
                  clear hbq34
                  by_cases c35 : bq34 = true
                  ·subst c35
                   have H1 : (if (ji29) ≤ (x10_3.length : Int) then (merge_Thin.l2 k3 l1 true x7_1 (rd_L4 t214 x19_1) (x10_3.take ((ji29) : Int).toNat) t214 (t214.length : Int) x19_1) else (none)) = some r := by rw [if_pos rfl] at H; exact H
                   clear H
                   have H := H1
                   clear H1
                   by_cases c36 : (ji29) ≤ (x10_3.length : Int)
                   ·rw [if_pos c36] at H
                    have c36b0 := eq_true c36
                    have c36b1 : decide ((ji29) ≤ (x10_3.length : Int)) = true := decide_eq_true c36
                    clear c36
                    obtain ⟨y232, hy232⟩ : ∃ y_ : List Int, y_ = (x10_3.take ((ji29) : Int).toNat) := ⟨_, rfl⟩
                    replace H : (merge_Thin.l2 k3 l1 true x7_1 (rd_L4 t214 x19_1) y232 t214 (t214.length : Int) x19_1) = some r := by first | (rw [hy232]; with_reducible exact H) | (have H2_ := (Option.bind_some _ _).symm.trans H; rw [hy232]; with_reducible exact H2_) | (have H2_ := (Option.bind_some _ _).symm.trans H; with_reducible exact H2_) | with_reducible exact H | (rw [hy232]; exact H) | exact H
                    have Ny232 := Aside0.mk hy232
                    clear hy232
                    have H' := Aside0.mk H
                    clear H
                    obtain ⟨Ao37, co37, eo37⟩ := Kd.R_slice HO_10.out
                    subst eo37
                    have p230 : 0 ≤ ((ji29) : Int) := of_decide_eq_true (by first | (with_reducible assumption) | assumption)
                    have q230 : (ji29) < (x10_3.length : Int) := of_decide_eq_true (by first | (with_reducible assumption) | assumption)
                    obtain ⟨ad230, e230, hx230_0⟩ := Kd.at_int (Kd.R_reads' HO_10.out).2.2 (ji29) p230 q230
                    cases e230
                    replace p230 := eq_true p230
                    replace q230 := eq_true q230
                    have p231 : 0 ≤ ((rd x10_3 (ji29)) : Int) := of_decide_eq_true (by first | (with_reducible assumption) | assumption)
                    have q231 : (rd x10_3 (ji29)) < ((rd_L4 t214 x19_1).length : Int) := of_decide_eq_true (by first | (with_reducible assumption) | assumption)
                    obtain ⟨ad231, e231, hx231_0, hx231_1, hx231_2, hx231_3⟩ := at_T36 (Kd.V_reads' HO_9.out).2.2 (rd x10_3 (ji29)) p231 q231
                    (try rw [← Nbq34.out] at hx231_2)
                    cases e231
                    replace p231 := eq_true p231
                    replace q231 := eq_true q231
                    have q38 : ((ji29) : Int) ≤ ((x10_3.length : Int) : Int) := of_decide_eq_true (by first | (with_reducible assumption) | assumption)
                    obtain ⟨i038, hi038, _, hsz38, _⟩ := info_parts info3
                    have hcut38 := cut_to (P := Try.prog) 23 3 .i64 Try.underlying23 hi038 (some ad230) x10_3.length co37 (ji29) (of_decide_eq_true (by first | (with_reducible assumption) | assumption)) q38 (Kd.R_reads' HO_10.out).2.1
                    have hr38 := Kd.R_take (m := ((ji29) : Int).toNat) HO_10.out (by omega)
                    have hy38 : y232.length = ((ji29) : Int).toNat := (by rw [Ny232.out, List.length_take]; omega)
                    rw [← Ny232.out] at hr38
                    rw [← hy38] at hr38 hcut38
                    clear hy38 hi038 hsz38 HO_10
                    have HO234 := Aside0.mk hr38
                    clear hr38
                    replace q38 := eq_true q38
                    go_wp2
                    go_roundg k3
                    case measure => have := HK1.out; have := HK2.out; have := HK3.out; omega
                    case rel => exact ⟨(y232), H', ⟨by have := HK1.out; have := HK2.out; have := HK3.out; omega⟩, ⟨by (with_reducible repeat (first | apply Kd.R_alloc | apply Kd.R_drewN | apply Kd.R_drew)); exact HO_7.out⟩, ⟨by (with_reducible repeat (first | apply Kd.V_alloc | apply Kd.V_drewN | apply Kd.V_drew)); exact HO_9.out⟩, ⟨by (with_reducible repeat (first | apply Kd.R_alloc | apply Kd.R_drewN | apply Kd.R_drew)); exact HO234.out⟩, ⟨by (with_reducible repeat (first | apply Kd.N_alloc | apply Kd.N_drewN | apply Kd.N_drew)); exact HO_17.out⟩, ⟨by repeat (first | (with_reducible first | exact HB.out | apply below_alloc | apply pw_below_drewN | apply below_drew1) | exact HB.out)⟩⟩
                   ·rw [if_neg c36] at H
                    exact absurd H (by simp)
                  ·replace c35 := Bool.eq_false_iff.mpr c35
                   subst c35
                   have H1 : (merge_Thin.j3 k3 l1 true x7_1 (rd_L4 t214 x19_1) x10_3 t214 (t214.length : Int) x19_1) = some r := by rw [if_neg (show ¬ (false = true) by decide)] at H; exact H
                   clear H
                   have H := H1
                   clear H1
                   have H' := Aside0.mk H
                   clear H
                   obtain ⟨Ao39, co39, eo39⟩ := Kd.R_slice HO_10.out
                   subst eo39
                   have p230 : 0 ≤ ((ji29) : Int) := of_decide_eq_true (by first | (with_reducible assumption) | assumption)
                   have q230 : (ji29) < (x10_3.length : Int) := of_decide_eq_true (by first | (with_reducible assumption) | assumption)
                   obtain ⟨ad230, e230, hx230_0⟩ := Kd.at_int (Kd.R_reads' HO_10.out).2.2 (ji29) p230 q230
                   cases e230
                   replace p230 := eq_true p230
                   replace q230 := eq_true q230
                   have p231 : 0 ≤ ((rd x10_3 (ji29)) : Int) := of_decide_eq_true (by first | (with_reducible assumption) | assumption)
                   have q231 : (rd x10_3 (ji29)) < ((rd_L4 t214 x19_1).length : Int) := of_decide_eq_true (by first | (with_reducible assumption) | assumption)
                   obtain ⟨ad231, e231, hx231_0, hx231_1, hx231_2, hx231_3⟩ := at_T36 (Kd.V_reads' HO_9.out).2.2 (rd x10_3 (ji29)) p231 q231
                   (try rw [← Nbq34.out] at hx231_2)
                   cases e231
                   replace p231 := eq_true p231
                   replace q231 := eq_true q231
                   go_wp2
                   go_meet
                   case rel => exact ⟨_, (x10_3), H', ⟨by have := HK1.out; have := HK2.out; have := HK3.out; first | omega | exact Nat.le_refl _⟩, ⟨by (with_reducible repeat (first | apply Kd.R_alloc | apply Kd.R_drewN | apply Kd.R_drew)); exact HO_7.out⟩, ⟨by (with_reducible repeat (first | apply Kd.V_alloc | apply Kd.V_drewN | apply Kd.V_drew)); exact HO_9.out⟩, ⟨by (with_reducible repeat (first | apply Kd.R_alloc | apply Kd.R_drewN | apply Kd.R_drew)); exact HO_10.out⟩, ⟨by (with_reducible repeat (first | apply Kd.N_alloc | apply Kd.N_drewN | apply Kd.N_drew)); exact HO_17.out⟩, ⟨by repeat (first | (with_reducible first | exact HB.out | apply below_alloc | apply pw_below_drewN | apply below_drew1) | exact HB.out)⟩⟩
                 ·rw [if_neg c33] at H
                  exact absurd H (by simp)
                ·rw [if_neg c32] at H
                 exact absurd H (by simp)
               ·rw [if_neg c31] at H
                exact absurd H (by simp)
              ·rw [if_neg c30] at H
               exact absurd H (by simp)
             ·rw [if_neg c28] at H
              have c28b0 : decide (0 < (x10_3.length : Int)) = false := decide_eq_false c28
              have c28b1 : decide (0 < x10_3.length) = false := decide_eq_false (by omega)
              clear c28
              (first | rw [c28b0] | (simp only [i64_w, i32_w]; rw [c28b0]) | skip)
              have H' := Aside0.mk H
              clear H
              obtain ⟨Ao40, co40, eo40⟩ := Kd.R_slice HO_10.out
              subst eo40
              go_wp2
              go_meet
              case rel => exact ⟨_, (x10_3), H', ⟨by have := HK1.out; have := HK2.out; have := HK3.out; first | omega | exact Nat.le_refl _⟩, ⟨by (with_reducible repeat (first | apply Kd.R_alloc | apply Kd.R_drewN | apply Kd.R_drew)); exact HO_7.out⟩, ⟨by (with_reducible repeat (first | apply Kd.V_alloc | apply Kd.V_drewN | apply Kd.V_drew)); exact HO_9.out⟩, ⟨by (with_reducible repeat (first | apply Kd.R_alloc | apply Kd.R_drewN | apply Kd.R_drew)); exact HO_10.out⟩, ⟨by (with_reducible repeat (first | apply Kd.N_alloc | apply Kd.N_drewN | apply Kd.N_drew)); exact HO_17.out⟩, ⟨by repeat (first | (with_reducible first | exact HB.out | apply below_alloc | apply pw_below_drewN | apply below_drew1) | exact HB.out)⟩⟩
            ·replace c27 := Bool.eq_false_iff.mpr c27
             subst c27
             have H1 : (merge_Thin.j3 k3 l1 false x7_1 (rd_L4 t214 x19_1) x10_3 t214 (t214.length : Int) x19_1) = some r := by rw [if_neg (show ¬ (false = true) by decide)] at H; exact H
             clear H
             have H := H1
             clear H1
             have H' := Aside0.mk H
             clear H
             go_wp2
             go_meet
             case rel => exact ⟨_, (x10_3), H', ⟨by have := HK1.out; have := HK2.out; have := HK3.out; first | omega | exact Nat.le_refl _⟩, ⟨by (with_reducible repeat (first | apply Kd.R_alloc | apply Kd.R_drewN | apply Kd.R_drew)); exact HO_7.out⟩, ⟨by (with_reducible repeat (first | apply Kd.V_alloc | apply Kd.V_drewN | apply Kd.V_drew)); exact HO_9.out⟩, ⟨by (with_reducible repeat (first | apply Kd.R_alloc | apply Kd.R_drewN | apply Kd.R_drew)); exact HO_10.out⟩, ⟨by (with_reducible repeat (first | apply Kd.N_alloc | apply Kd.N_drewN | apply Kd.N_drew)); exact HO_17.out⟩, ⟨by repeat (first | (with_reducible first | exact HB.out | apply below_alloc | apply pw_below_drewN | apply below_drew1) | exact HB.out)⟩⟩
         case rest =>
          clear HC23
          try clear c1
          try clear c2
          try clear p2
          try clear q2
          try clear hx2
          try clear c3
          try clear q3
          try clear p6
          try clear c7
          try clear c7b0
          try clear c8
          try clear c8b0
          try clear c9
          try clear c9b0
          try clear c12
          try clear c12b0
          try clear c13
          try clear c13b0
          try clear c14
          try clear c14b0
          try clear c16
          try clear c16b0
          try clear c17
          try clear c21
          try clear p21
          try clear q21
          try clear hx21
          try clear p22
          try clear q22
          try clear hx22
          try clear p23
          try clear q23
          try clear hx23
          try clear c27
          try clear c28
          try clear c28b0
          try clear c28b1
          try clear c29
          try clear c30
          try clear c30b0
          try clear c31
          try clear c31b0
          try clear c32
          try clear c32b0
          try clear c33
          try clear c33b0
          try clear q34
          try clear c35
          try clear c36
          try clear c36b0
          try clear c36b1
          try clear q38
          try clear hx217_0
          try clear hx221_0
          try clear hx230_0
          try clear hx231_0
          try clear hx231_1
          try clear hx231_2
          try clear hx231_3
          try clear p2
          try clear p21
          try clear p217
          try clear p22
          try clear p221
          try clear p230
          try clear p231
          try clear p6
          try clear q2
          try clear q21
          try clear q217
          try clear q22
          try clear q221
          try clear q230
          try clear q231
          try clear q38
          obtain ⟨kq, x10_22, HA, HJ22, HO_7, HO_9, HO_10, HO_17, HB⟩ := hcut
          cases kq with
          | zero => exact absurd HA.out (by simp [merge_Thin.j3])
          | succ kj22 =>
           have H := HA.out
           clear HA
           simp only [merge_Thin.j3] at H
           have H' := Aside0.mk H
           clear H
           obtain ⟨Ao41, co41, eo41⟩ := Kd.R_slice HO_10.out
           subst eo41
           go_wp2
           go_loopg [7, 69] kj22 (fun kq v7 v69 w' => ∃ (x7_4 : List (S36)) (x69_4 : Int), v69 = .int .i64 x69_4 ∧ Aside0 (merge_Thin.l3 kq l1 a2 x7_4 (rd_L4 t214 x19_1) t214 (t214.length : Int) x19_1 x10_22 (x10_22.length : Int) x69_4 = some r) ∧ Aside0 (kq ≤ kj22) ∧ Aside0 (Kd.R k36 36 w' w.heap.size (fun _ => True) v7 x7_4) ∧ Aside0 (Kd.V k36 36 w' w.heap.size (fun k_ => some k_ ≠ (v7 : Value).ownBlock ∧ some k_ ≠ ((.slice (some ad217) t214.length co6) : Value).ownBlock ∧ some k_ ≠ ((.slice Ao41 x10_22.length co41) : Value).ownBlock) (.slice A217_0 (rd_L4 t214 x19_1).length c217_0) (rd_L4 t214 x19_1)) ∧ Aside0 (Kd.N (Kd.slice 36 k36) 27 w' w.heap.size (fun k_ => some k_ ≠ (v7 : Value).ownBlock ∧ some k_ ≠ ((.slice Ao41 x10_22.length co41) : Value).ownBlock) (.slice (some ad217) t214.length co6) t214) ∧ Aside0 (Kd.R (Kd.int .i64) 3 w' w.heap.size (fun _ => True) (.slice Ao41 x10_22.length co41) x10_22) ∧ Aside0 (Below w.heap.size w w'))
           case atStart => exact ⟨(x7_1), (0), (by first | rfl | (simp; done) | (simp [*]; done)), H', ⟨Nat.le_refl _⟩, ⟨by (with_reducible repeat (first | apply Kd.R_alloc | apply Kd.R_drewN | apply Kd.R_drew)); exact HO_7.out⟩, ⟨by (with_reducible repeat (first | apply Kd.V_alloc | apply Kd.V_drewN | apply Kd.V_drew)); exact Kd.V_mono HO_9.out (fun _ hk => ⟨hk.1, ⟨hk.2.2, hk.2.1⟩⟩)⟩, ⟨by (with_reducible repeat (first | apply Kd.N_alloc | apply Kd.N_drewN | apply Kd.N_drew)); exact HO_17.out⟩, ⟨by (with_reducible repeat (first | apply Kd.R_alloc | apply Kd.R_drewN | apply Kd.R_drew)); exact HO_10.out⟩, ⟨by repeat (first | (with_reducible first | exact HB.out | apply below_alloc | apply pw_below_drewN | apply below_drew1) | exact HB.out)⟩⟩
           case round =>
            clear H'
            try clear c1
            try clear c2
            try clear p2
            try clear q2
            try clear hx2
            try clear c3
            try clear q3
            try clear p6
            try clear c7
            try clear c7b0
            try clear c8
            try clear c8b0
            try clear c9
            try clear c9b0
            try clear c12
            try clear c12b0
            try clear c13
            try clear c13b0
            try clear c14
            try clear c14b0
            try clear c16
            try clear c16b0
            try clear c17
            try clear c21
            try clear p21
            try clear q21
            try clear hx21
            try clear p22
            try clear q22
            try clear hx22
            try clear p23
            try clear q23
            try clear hx23
            try clear c27
            try clear c28
            try clear c28b0
            try clear c28b1
            try clear c29
            try clear c30
            try clear c30b0
            try clear c31
            try clear c31b0
            try clear c32
            try clear c32b0
            try clear c33
            try clear c33b0
            try clear q34
            try clear c35
            try clear c36
            try clear c36b0
            try clear c36b1
            try clear q38
            try clear hx217_0
            try clear hx221_0
            try clear hx230_0
            try clear hx231_0
            try clear hx231_1
            try clear hx231_2
            try clear hx231_3
            try clear p2
            try clear p21
            try clear p217
            try clear p22
            try clear p221
            try clear p23
            try clear p230
            try clear p231
            try clear p6
            try clear q2
            try clear q21
            try clear q217
            try clear q22
            try clear q221
            try clear q23
            try clear q230
            try clear q231
            try clear q3
            try clear q34
            try clear q38
            obtain ⟨x7_4, x69_4, rfl, HA, HK4, HO_7, HO_9, HO_17, HO_67, HB⟩ := hrel
            cases gk with
            | zero => exact absurd HA.out (by simp [merge_Thin.l3])
            | succ k4 =>
             have H := HA.out
             clear HA
             simp only [merge_Thin.l3] at H
             by_cases c42 : x69_4 < (x10_22.length : Int)
             ·rw [if_pos c42] at H
              have c42b0 : decide (x69_4 < (x10_22.length : Int)) = true := decide_eq_true c42
              clear c42
              by_cases c43 : 0 ≤ x69_4
              ·rw [if_pos c43] at H
               have c43b0 : decide (0 ≤ x69_4) = true := decide_eq_true c43
               clear c43
               by_cases c44 : x69_4 < (x10_22.length : Int)
               ·rw [if_pos c44] at H
                have c44b0 : decide (x69_4 < (x10_22.length : Int)) = true := decide_eq_true c44
                clear c44
                by_cases c45 : 0 ≤ (rd x10_22 x69_4)
                ·rw [if_pos c45] at H
                 have c45b0 : decide (0 ≤ (rd x10_22 x69_4)) = true := decide_eq_true c45
                 clear c45
                 by_cases c46 : (rd x10_22 x69_4) < ((rd_L4 t214 x19_1).length : Int)
                 ·rw [if_pos c46] at H
                  have c46b0 : decide ((rd x10_22 x69_4) < ((rd_L4 t214 x19_1).length : Int)) = true := decide_eq_true c46
                  clear c46
                  by_cases c47 : x7_4.length < 2932031007402
                  ·rw [if_pos c47] at H
                   have LMc47 := Aside0.mk c47
                   clear c47
                   obtain ⟨y237, hy237⟩ : ∃ y_ : List (S36), y_ = (x7_4 ++ [(⟨(rd_T36 (rd_L4 t214 x19_1) (rd x10_22 x69_4)).f0, (rd_T36 (rd_L4 t214 x19_1) (rd x10_22 x69_4)).f1, (rd_T36 (rd_L4 t214 x19_1) (rd x10_22 x69_4)).f2, (rd_T36 (rd_L4 t214 x19_1) (rd x10_22 x69_4)).f3⟩ : S36)]) := ⟨_, rfl⟩
                   replace H : (merge_Thin.l3 k4 l1 a2 y237 (rd_L4 t214 x19_1) t214 (t214.length : Int) x19_1 x10_22 (x10_22.length : Int) (wrap64 (x69_4 + 1))) = some r := by first | (rw [hy237]; with_reducible exact H) | (have H2_ := (Option.bind_some _ _).symm.trans H; rw [hy237]; with_reducible exact H2_) | (have H2_ := (Option.bind_some _ _).symm.trans H; with_reducible exact H2_) | with_reducible exact H | (rw [hy237]; exact H) | exact H
                   have Ny237 := Aside0.mk hy237
                   clear hy237
                   have H' := Aside0.mk H
                   clear H
                   have p235 : 0 ≤ (x69_4 : Int) := of_decide_eq_true (by first | (with_reducible assumption) | assumption)
                   have q235 : x69_4 < (x10_22.length : Int) := of_decide_eq_true (by first | (with_reducible assumption) | assumption)
                   obtain ⟨ad235, e235, hx235_0⟩ := Kd.at_int (Kd.R_reads' HO_67.out).2.2 x69_4 p235 q235
                   cases e235
                   replace p235 := eq_true p235
                   replace q235 := eq_true q235
                   have p236 : 0 ≤ ((rd x10_22 x69_4) : Int) := of_decide_eq_true (by first | (with_reducible assumption) | assumption)
                   have q236 : (rd x10_22 x69_4) < ((rd_L4 t214 x19_1).length : Int) := of_decide_eq_true (by first | (with_reducible assumption) | assumption)
                   obtain ⟨ad236, e236, hx236_0, hx236_1, hx236_2, hx236_3⟩ := at_T36 (Kd.V_reads' HO_9.out).2.2 (rd x10_22 x69_4) p236 q236
                   cases e236
                   replace p236 := eq_true p236
                   replace q236 := eq_true q236
                   go_wp2_with (first | ((with_reducible refine gate_builtin (b := .append) (xs := #[.tmp 73, .tmp 78]) rfl ?_); (try (refine gate_guard (by rfl) ?_; dsimp only)); at_builtin; refine Kd.R_append k36 (w0 := w) w.heap.size rfl (.tmp 73) (.tmp 78) 27 36 (.agg #[(.string ⟨#[]⟩), (.int .i64 0), (.bool false), (.string ⟨#[]⟩)]) 48 rfl Try.underlying27 info36 rfl (by decide) (by omega) u7 x7_4 (⟨(rd_T36 (rd_L4 t214 x19_1) (rd x10_22 x69_4)).f0, (rd_T36 (rd_L4 t214 x19_1) (rd x10_22 x69_4)).f1, (rd_T36 (rd_L4 t214 x19_1) (rd x10_22 x69_4)).f2, (rd_T36 (rd_L4 t214 x19_1) (rd x10_22 x69_4)).f3⟩ : S36) [.string ((rd_T36 (rd_L4 t214 x19_1) (rd x10_22 x69_4)).f0), .int .i64 ((rd_T36 (rd_L4 t214 x19_1) (rd x10_22 x69_4)).f1), .bool ((rd_T36 (rd_L4 t214 x19_1) (rd x10_22 x69_4)).f2), .string ((rd_T36 (rd_L4 t214 x19_1) (rd x10_22 x69_4)).f3)] (fun _ => True) (fun _ => False) rfl rfl ?aP (fun _ hk => hk.elim) ?aF ?aO ?aB ?aS ?aL ?_; (case aP => exact k36_mkM _ _ _ (⟨(rd_T36 (rd_L4 t214 x19_1) (rd x10_22 x69_4)).f0, (rd_T36 (rd_L4 t214 x19_1) (rd x10_22 x69_4)).f1, (rd_T36 (rd_L4 t214 x19_1) (rd x10_22 x69_4)).f2, (rd_T36 (rd_L4 t214 x19_1) (rd x10_22 x69_4)).f3⟩ : S36)); (case aB => exact HB.out); (case aF => exact (fun _ _ => trivial)); (case aO => exact HO_7.out); (case aS => exact (below_size HB.out)); (case aL => have := LMc47.out; omega); intro v238 w48 ho hb hg hat; rw [← Ny237.out] at ho; have n0_ := Aside0.mk (Kd.V_afterv (ok := (fun k_ => some k_ ≠ (.slice (some ad217) t214.length co6 : Value).ownBlock ∧ some k_ ≠ (.slice (some ad235) x10_22.length co41 : Value).ownBlock)) (by (with_reducible repeat (first | apply Kd.V_alloc | apply Kd.V_drewN | apply Kd.V_drew)); exact Kd.V_mono HO_9.out (fun _ hk => ⟨⟨hk.2.1, hk.2.2⟩, hk.1⟩)) hg hat); have n1_ := Aside0.mk (Kd.N_afterv (ok := (fun k_ => some k_ ≠ (.slice (some ad235) x10_22.length co41 : Value).ownBlock)) (by (with_reducible repeat (first | apply Kd.N_alloc | apply Kd.N_drewN | apply Kd.N_drew)); exact Kd.N_mono HO_17.out (fun _ hk => ⟨hk.2, hk.1⟩)) hg hat); have n2_ := Aside0.mk (Kd.R_over' HO_67.out (Kd.R_typed HO_7.out) (by decide) hg); have n3_ := Aside0.mk (hb); have n4_ := Aside0.mk (ho); clear HO_9; clear HO_17; clear HO_67; clear HB; clear HO_7; have HO_9 := n0_; have HO_17 := n1_; have HO_67 := n2_; have HB := n3_; have HO239 := n4_; clear n0_ n1_ n2_ n3_ n4_; clear ho hb hg hat))
                   go_roundg k4
                   case measure => have := HK1.out; have := HK2.out; have := HJ22.out; have := HK4.out; omega
                   case rel => exact ⟨(y237), (wrap64 (x69_4 + 1)), (by first | rfl | (simp; done) | (simp [*]; done)), H', ⟨by have := HK1.out; have := HK2.out; have := HJ22.out; have := HK4.out; omega⟩, ⟨by (with_reducible repeat (first | apply Kd.R_alloc | apply Kd.R_drewN | apply Kd.R_drew)); exact HO239.out⟩, ⟨by (with_reducible repeat (first | apply Kd.V_alloc | apply Kd.V_drewN | apply Kd.V_drew)); exact Kd.V_mono HO_9.out (fun _ hk => ⟨hk.2, ⟨hk.1.1, hk.1.2⟩⟩)⟩, ⟨by (with_reducible repeat (first | apply Kd.N_alloc | apply Kd.N_drewN | apply Kd.N_drew)); exact Kd.N_mono HO_17.out (fun _ hk => ⟨hk.2, hk.1⟩)⟩, ⟨by (with_reducible repeat (first | apply Kd.R_alloc | apply Kd.R_drewN | apply Kd.R_drew)); exact HO_67.out⟩, ⟨by repeat (first | (with_reducible first | exact HB.out | apply below_alloc | apply pw_below_drewN | apply below_drew1) | exact HB.out)⟩⟩
                  ·rw [if_neg c47] at H
                   exact absurd H (by simp)
                 ·rw [if_neg c46] at H
                  exact absurd H (by simp)
                ·rw [if_neg c45] at H
                 exact absurd H (by simp)
               ·rw [if_neg c44] at H
                exact absurd H (by simp)
              ·rw [if_neg c43] at H
               exact absurd H (by simp)
             ·rw [if_neg c42] at H
              have c42b0 : decide (x69_4 < (x10_22.length : Int)) = false := decide_eq_false c42
              clear c42
              have H' := Aside0.mk H
              clear H
              go_wp2
              go_roundg k4
              case measure => have := HK1.out; have := HK2.out; have := HJ22.out; have := HK4.out; omega
              case rel => exact ⟨(x7_4), (wrap64 (x19_1 + 1)), (by first | rfl | (simp; done) | (simp [*]; done)), H', ⟨by have := HK1.out; have := HK2.out; have := HJ22.out; have := HK4.out; omega⟩, ⟨by (with_reducible repeat (first | apply Kd.R_alloc | apply Kd.R_drewN | apply Kd.R_drew)); exact HO_7.out⟩, ⟨by (with_reducible repeat (first | apply Kd.N_alloc | apply Kd.N_drewN | apply Kd.N_drew)); exact Kd.N_mono HO_17.out (fun _ hk => hk.1)⟩, ⟨by repeat (first | (with_reducible first | exact HB.out | apply below_alloc | apply pw_below_drewN | apply below_drew1) | exact HB.out)⟩⟩
     ·rw [if_neg c9] at H
      exact absurd H (by simp)
    ·rw [if_neg c8] at H
     exact absurd H (by simp)
   ·rw [if_neg c7] at H
    have c7b0 : decide (x19_1 < (t214.length : Int)) = false := decide_eq_false c7
    clear c7
    obtain rfl := Option.some.inj H
    go_wp2
    go_ret
    exact ⟨_, by first | rfl | (simp [errW_none, errW_some] <;> rfl) | (simp [*, errW_none, errW_some] <;> rfl), by (with_reducible repeat (first | apply Kd.R_alloc | apply Kd.R_drewN | apply Kd.R_drew)); exact HO_7.out, by repeat (first | (with_reducible first | exact HB.out | apply below_alloc | apply pw_below_drewN | apply below_drew1) | exact HB.out)⟩

end Go.Proofs.Ythdoanbadhfhjaa.PAll

-- slimmed
