-- Laid by ownprint.py (a program of the session, in wip/tools), out of the translation: Lean checks it.
import Derived.Test.YthdoanbadhfhjaaPAllx0
import Derived.Test.YthdoanbadhfhjaaPAllx2
import Derived.Test.YthdoanbadhfhjaaGv
import Derived.Test.YthdoanbadhfhjaaGw
namespace Go.Proofs.Ythdoanbadhfhjaa.PAll
open Go.RowKit Go.Proofs.YthdoanbadhfhjaaW.PrintWords Go.Proofs.YthdoanbadhfhjaaW.PrintLast Go.Proofs.YthdoanbadhfhjaaW.PrintMore
attribute [local go_sem] max2_int min2_int max_two min_two max_three min_three max_four min_four   -- for this text's walks alone
set_option linter.unusedVariables false
set_option linter.unusedSimpArgs false

/-! ### api_Entry_36: function 36 -/
mutual
def api_Entry_36.l0 : Nat → List (S36) → List (S36) → List (S36) → Option ((List (S36)))
 | 0, _, _, _ => none
 | k + 1, x0, x1, x7 => if (x0.length : Int) > 0 then (api_Entry_36.j1 k x0 x1 x7 (decide ((x1.length : Int) > 0))) else (api_Entry_36.j1 k x0 x1 x7 false)
def api_Entry_36.j1 : Nat → List (S36) → List (S36) → List (S36) → Bool → Option ((List (S36)))
 | 0, _, _, _, _ => none
 | k + 1, x0, x1, x7, x15 => if x15 = true then (if 0 < (x0.length : Int) then (if 0 < (x1.length : Int) then ((table_Less.f k ((rd_T36 x0 0).f0) ((rd_T36 x0 0).f1) ((rd_T36 x0 0).f2) ((rd_T36 x0 0).f3) ((rd_T36 x1 0).f0) ((rd_T36 x1 0).f1) ((rd_T36 x1 0).f2) ((rd_T36 x1 0).f3)).bind fun t123 => (if t123 = true then (if x7.length < 2932031007402 then (if 1 ≤ (x0.length : Int) then (api_Entry_36.l0 k (x0.drop 1) x1 (x7 ++ [(⟨(rd_T36 x0 0).f0, (rd_T36 x0 0).f1, (rd_T36 x0 0).f2, (rd_T36 x0 0).f3⟩ : S36)])) else (none)) else (none)) else ((table_Less.f k ((rd_T36 x1 0).f0) ((rd_T36 x1 0).f1) ((rd_T36 x1 0).f2) ((rd_T36 x1 0).f3) ((rd_T36 x0 0).f0) ((rd_T36 x0 0).f1) ((rd_T36 x0 0).f2) ((rd_T36 x0 0).f3)).bind fun t135 => (if t135 = true then (if x7.length < 2932031007402 then (if 1 ≤ (x1.length : Int) then (api_Entry_36.l0 k x0 (x1.drop 1) (x7 ++ [(⟨(rd_T36 x1 0).f0, (rd_T36 x1 0).f1, (rd_T36 x1 0).f2, (rd_T36 x1 0).f3⟩ : S36)])) else (none)) else (none)) else (if 1 ≤ (x1.length : Int) then (api_Entry_36.l0 k x0 (x1.drop 1) x7) else (none)))))) else (none)) else (none)) else (if x7.length + x0.length < 2932031007402 then ((some (x7 ++ x0 : List (S36))).bind fun y115 => (if y115.length + x1.length < 2932031007402 then (some (y115 ++ x1)) else (none))) else (none))
end
def api_Entry_36.f (k : Nat) (l0 : List (S36)) (l1 : List (S36)) (a2 : Unit) : Option ((List (S36))) := api_Entry_36.l0 k l0 l1 ([] : List (S36))
theorem api_Entry_36.mono_l : ∀ k, (∀ y0 y1 y2, LeO (api_Entry_36.l0 k y0 y1 y2) (api_Entry_36.l0 (k + 1) y0 y1 y2)) ∧ (∀ y0 y1 y2 y3, LeO (api_Entry_36.j1 k y0 y1 y2 y3) (api_Entry_36.j1 (k + 1) y0 y1 y2 y3))
 | 0 => ⟨fun _ _ _ r h => by simp [api_Entry_36.l0] at h, fun _ _ _ _ r h => by simp [api_Entry_36.j1] at h⟩
 | k + 1 => by
  obtain ⟨ih0, ih1⟩ := api_Entry_36.mono_l k
  refine ⟨?_, ?_⟩
  ·intro y0 y1 y2
   unfold api_Entry_36.l0
   repeat' first
   | (with_reducible exact ih0 _ _ _)
   | (with_reducible exact ih1 _ _ _ _)
   | (with_reducible exact table_Less.mono _ _ _ _ _ _ _ _ _)
   | (with_reducible exact LeO.refl _)
   | (with_reducible exact LeO.none _)
   | (with_reducible refine LeO.ite ?_ ?_)
   | (with_reducible refine LeO.bind ?_ (fun _ => ?_))
   | exact ih0 _ _ _
   | exact ih1 _ _ _ _
   | exact table_Less.mono _ _ _ _ _ _ _ _ _
   | exact LeO.none _
   | refine LeO.ite ?_ ?_
   | refine LeO.bind ?_ (fun _ => ?_)
  ·intro y0 y1 y2 y3
   unfold api_Entry_36.j1
   repeat' first
   | (with_reducible exact ih0 _ _ _)
   | (with_reducible exact ih1 _ _ _ _)
   | (with_reducible exact table_Less.mono _ _ _ _ _ _ _ _ _)
   | (with_reducible exact LeO.refl _)
   | (with_reducible exact LeO.none _)
   | (with_reducible refine LeO.ite ?_ ?_)
   | (with_reducible refine LeO.bind ?_ (fun _ => ?_))
   | exact ih0 _ _ _
   | exact ih1 _ _ _ _
   | exact table_Less.mono _ _ _ _ _ _ _ _ _
   | exact LeO.none _
   | refine LeO.ite ?_ ?_
   | refine LeO.bind ?_ (fun _ => ?_)
theorem api_Entry_36.mono : ∀ a0 a1 a2 k, LeO (api_Entry_36.f k a0 a1 a2) (api_Entry_36.f (k + 1) a0 a1 a2) := by
 intro a0 a1 a2 k
 obtain ⟨ih0, ih1⟩ := api_Entry_36.mono_l k
 unfold api_Entry_36.f
 repeat' first
   | (with_reducible exact ih0 _ _ _)
   | (with_reducible exact ih1 _ _ _ _)
   | (with_reducible exact table_Less.mono _ _ _ _ _ _ _ _ _)
   | (with_reducible exact LeO.refl _)
   | (with_reducible exact LeO.none _)
   | (with_reducible refine LeO.ite ?_ ?_)
   | (with_reducible refine LeO.bind ?_ (fun _ => ?_))
   | exact ih0 _ _ _
   | exact ih1 _ _ _ _
   | exact table_Less.mono _ _ _ _ _ _ _ _ _
   | exact LeO.none _
   | refine LeO.ite ?_ ?_
   | refine LeO.bind ?_ (fun _ => ?_)
def api_Entry_36.T4 : Bool × List (List Nat × List Nat) := (true, [([], []), ([], []), ([1], [1]), ([2], [2]), ([], []), ([4], [4]), ([5], [5]), ([0, 3, 6], [0, 3, 6]), ([7, 7], [7])])
def api_Entry_36.B4 : List Nat := [0, 0, 2, 6, 0, 16, 48, 127, 255]
theorem api_Entry_36.tab4 : rtab .any (opsOf Try.f36 4) = api_Entry_36.T4 := by kernel_rfl
theorem api_Entry_36.bits4 : waitsOk api_Entry_36.T4.2 api_Entry_36.B4 = true := by kernel_rfl
def api_Entry_36.T5 : Bool × List (List Nat × List Nat) := (true, [([], []), ([], []), ([1], [1]), ([2], [2]), ([3], [3]), ([0, 4], [0, 4]), ([], []), ([6], [6]), ([5, 5, 0, 1, 2, 3, 4, 5], [0, 5]), ([7, 8, 0, 1, 2, 3, 4, 5, 6, 7, 8], [1, 6, 7])])
def api_Entry_36.B5 : List Nat := [0, 0, 2, 6, 14, 31, 0, 64, 63, 511]
theorem api_Entry_36.tab5 : rtab .any (opsOf Try.f36 5) = api_Entry_36.T5 := by kernel_rfl
theorem api_Entry_36.bits5 : waitsOk api_Entry_36.T5.2 api_Entry_36.B5 = true := by kernel_rfl
def api_Entry_36.T6 : Bool × List (List Nat × List Nat) := (true, [([], []), ([], []), ([1], [1]), ([2], [2]), ([], []), ([4], [4]), ([5], [5]), ([0, 3, 6], [0, 3, 6]), ([7, 7], [7])])
def api_Entry_36.B6 : List Nat := [0, 0, 2, 6, 0, 16, 48, 127, 255]
theorem api_Entry_36.tab6 : rtab .any (opsOf Try.f36 6) = api_Entry_36.T6 := by kernel_rfl
theorem api_Entry_36.bits6 : waitsOk api_Entry_36.T6.2 api_Entry_36.B6 = true := by kernel_rfl
def api_Entry_36.T7 : Bool × List (List Nat × List Nat) := (true, [([], []), ([], []), ([1], [1]), ([2], [2]), ([3], [3]), ([0, 4], [0, 4]), ([], []), ([6], [6]), ([5, 5, 0, 1, 2, 3, 4, 5], [0, 5]), ([7, 8, 0, 1, 2, 3, 4, 5, 6, 7, 8], [1, 6, 7])])
def api_Entry_36.B7 : List Nat := [0, 0, 2, 6, 14, 31, 0, 64, 63, 511]
theorem api_Entry_36.tab7 : rtab .any (opsOf Try.f36 7) = api_Entry_36.T7 := by kernel_rfl
theorem api_Entry_36.bits7 : waitsOk api_Entry_36.T7.2 api_Entry_36.B7 = true := by kernel_rfl
set_option maxHeartbeats 8000000 in
set_option maxRecDepth 100000 in
theorem api_Entry_36.calls (k : Nat) (P0_ : Nat → Prop) (A0 : Option Addr) (c0 : Nat) (l0 : List (S36)) (P1_ : Nat → Prop) (A1 : Option Addr) (c1 : Nat) (l1 : List (S36)) (a2 : Unit) (r : List (S36)) (w : World) (hs0 : Kd.V k36 36 w w.heap.size (fun k_ => P0_ k_) (.slice A0 l0.length c0) l0) (hs1 : Kd.V k36 36 w w.heap.size (fun k_ => P1_ k_) (.slice A1 l1.length c1) l1) (h : api_Entry_36.f k l0 l1 a2 = some r) :
  Calls Try.prog 36 #[.slice A0 l0.length c0, .slice A1 l1.length c1, .func (.func 26) #[] #[]] w fun e w' => ∃ v0_ : Value, e = .returned (v0_) ∧ Kd.R k36 36 w' w.heap.size (fun k_ => (w.heap.size ≤ k_)) v0_ r ∧ Below w.heap.size w w' := by
 have hu36 := Try.underlying36
 have HO0 := Aside0.mk (show Kd.V k36 36 w w.heap.size (fun k_ => ((P0_ k_ ∨ P1_ k_) ∨ w.heap.size ≤ k_)) (.slice A0 l0.length c0) l0 from Kd.V_mono hs0 (fun k_ hk => .inl (.inl hk)))
 have HO1 := Aside0.mk (show Kd.V k36 36 w w.heap.size (fun k_ => ((P0_ k_ ∨ P1_ k_) ∨ w.heap.size ≤ k_)) (.slice A1 l1.length c1) l1 from Kd.V_mono hs1 (fun k_ hk => .inl (.inr hk)))
 have HB := Aside0.mk (Below.refl w.heap.size w)
 have H : (api_Entry_36.l0 k l0 l1 ([] : List (S36))) = some r := h
 clear h
 have H' := Aside0.mk H
 clear H
 go_enter Try.func36, Try.ntmps36
 go_wp2
 go_loopg [0, 1, 7] k (fun kq v0 v1 v7 w' => ∃ (x0_1 : List (S36)) (x1_1 : List (S36)) (x7_1 : List (S36)), Aside0 (api_Entry_36.l0 kq x0_1 x1_1 x7_1 = some r) ∧ Aside0 (kq ≤ k) ∧ Aside0 (Kd.V k36 36 w' w.heap.size (fun k_ => ((P0_ k_ ∨ P1_ k_) ∨ w.heap.size ≤ k_) ∧ some k_ ≠ (v7 : Value).ownBlock) v0 x0_1) ∧ Aside0 (Kd.V k36 36 w' w.heap.size (fun k_ => ((P0_ k_ ∨ P1_ k_) ∨ w.heap.size ≤ k_) ∧ some k_ ≠ (v7 : Value).ownBlock) v1 x1_1) ∧ Aside0 (Kd.R k36 36 w' w.heap.size (fun k_ => (w.heap.size ≤ k_)) v7 x7_1) ∧ Aside0 (Below w.heap.size w w'))
 case atStart => exact ⟨(l0), (l1), (([] : List (S36))), H', ⟨Nat.le_refl _⟩, ⟨by (with_reducible repeat (first | apply Kd.V_alloc | apply Kd.V_drewN | apply Kd.V_drew)); exact Kd.V_mono HO0.out (fun _ hk => ⟨hk, (by simp [Value.ownBlock])⟩)⟩, ⟨by (with_reducible repeat (first | apply Kd.V_alloc | apply Kd.V_drewN | apply Kd.V_drew)); exact Kd.V_mono HO1.out (fun _ hk => ⟨hk, (by simp [Value.ownBlock])⟩)⟩, ⟨by first | exact Kd.R_nil _ _ _ _ _ | exact Kd.N_nil _ _ _ _ _ | exact Kd.V_nil _ _ _ _ _ | exact Kd.Q_nil _ _ _ _ _ | exact Kd.S_nil _ _ _ _ _⟩, ⟨by repeat (first | (with_reducible first | exact HB.out | apply below_alloc | apply pw_below_drewN | apply below_drew1) | exact HB.out)⟩⟩
 case round =>
  clear H'
  try clear c1
  try clear p2
  try clear c3
  obtain ⟨x0_1, x1_1, x7_1, HA, HK1, HO_0, HO_1, HO_7, HB⟩ := hrel
  cases gk with
  | zero => exact absurd HA.out (by simp [api_Entry_36.l0])
  | succ k1 =>
   have H := HA.out
   clear HA
   simp only [api_Entry_36.l0] at H
   have HC4 := Aside0.mk H
   clear H
   go_upto_region 2 with (fail)
   go_cut [15] (fun v15 wc => ∃ (kq : Nat) (x15_3 : Bool), v15 = .bool x15_3 ∧ Aside0 (api_Entry_36.j1 kq x0_1 x1_1 x7_1 x15_3 = some r) ∧ Aside0 (kq ≤ k1) ∧ Aside0 (Kd.V k36 36 wc w.heap.size (fun k_ => ((P0_ k_ ∨ P1_ k_) ∨ w.heap.size ≤ k_) ∧ some k_ ≠ (u7 : Value).ownBlock) u0 x0_1) ∧ Aside0 (Kd.V k36 36 wc w.heap.size (fun k_ => ((P0_ k_ ∨ P1_ k_) ∨ w.heap.size ≤ k_) ∧ some k_ ≠ (u7 : Value).ownBlock) u1 x1_1) ∧ Aside0 (Kd.R k36 36 wc w.heap.size (fun k_ => (w.heap.size ≤ k_)) u7 x7_1) ∧ Aside0 (Below w.heap.size w wc))
   case first =>
    have H := HC4.out
    clear HC4
    by_cases c5 : (x0_1.length : Int) > 0
    ·rw [if_pos c5] at H
     have c5b0 : decide (0 < (x0_1.length : Int)) = true := decide_eq_true c5
     have c5b1 : decide (0 < x0_1.length) = true := decide_eq_true (by omega)
     clear c5
     (first | rw [c5b0] | (simp only [i64_w, i32_w]; rw [c5b0]) | skip)
     have H' := Aside0.mk H
     clear H
     obtain ⟨Ao6, co6, eo6⟩ := Kd.V_slice HO_0.out
     subst eo6
     obtain ⟨Ao7, co7, eo7⟩ := Kd.V_slice HO_1.out
     subst eo7
     go_wp2
     go_meet
     case rel => exact ⟨_, (decide ((x1_1.length : Int) > 0)), (by first | rfl | (simp; done) | (simp [*]; done)), H', ⟨by have := HK1.out; first | omega | exact Nat.le_refl _⟩, ⟨by (with_reducible repeat (first | apply Kd.V_alloc | apply Kd.V_drewN | apply Kd.V_drew)); exact HO_0.out⟩, ⟨by (with_reducible repeat (first | apply Kd.V_alloc | apply Kd.V_drewN | apply Kd.V_drew)); exact HO_1.out⟩, ⟨by (with_reducible repeat (first | apply Kd.R_alloc | apply Kd.R_drewN | apply Kd.R_drew)); exact HO_7.out⟩, ⟨by repeat (first | (with_reducible first | exact HB.out | apply below_alloc | apply pw_below_drewN | apply below_drew1) | exact HB.out)⟩⟩
    ·rw [if_neg c5] at H
     have c5b0 : decide (0 < (x0_1.length : Int)) = false := decide_eq_false c5
     have c5b1 : decide (0 < x0_1.length) = false := decide_eq_false (by omega)
     clear c5
     (first | rw [c5b0] | (simp only [i64_w, i32_w]; rw [c5b0]) | skip)
     have H' := Aside0.mk H
     clear H
     obtain ⟨Ao8, co8, eo8⟩ := Kd.V_slice HO_0.out
     subst eo8
     go_wp2
     go_meet
     case rel => exact ⟨_, (false), (by first | rfl | (simp; done) | (simp [*]; done)), H', ⟨by have := HK1.out; first | omega | exact Nat.le_refl _⟩, ⟨by (with_reducible repeat (first | apply Kd.V_alloc | apply Kd.V_drewN | apply Kd.V_drew)); exact HO_0.out⟩, ⟨by (with_reducible repeat (first | apply Kd.V_alloc | apply Kd.V_drewN | apply Kd.V_drew)); exact HO_1.out⟩, ⟨by (with_reducible repeat (first | apply Kd.R_alloc | apply Kd.R_drewN | apply Kd.R_drew)); exact HO_7.out⟩, ⟨by repeat (first | (with_reducible first | exact HB.out | apply below_alloc | apply pw_below_drewN | apply below_drew1) | exact HB.out)⟩⟩
   case rest =>
    clear HC4
    try clear c1
    try clear p2
    try clear c3
    try clear c5
    try clear c5b0
    try clear c5b1
    try clear p2
    obtain ⟨kq, x15_3, rfl, HA, HJ3, HO_0, HO_1, HO_7, HB⟩ := hcut
    cases kq with
    | zero => exact absurd HA.out (by simp [api_Entry_36.j1])
    | succ kj3 =>
     have H := HA.out
     clear HA
     simp only [api_Entry_36.j1] at H
     by_cases c9 : x15_3 = true
     ·subst c9
      have H1 : (if 0 < (x0_1.length : Int) then (if 0 < (x1_1.length : Int) then ((table_Less.f kj3 ((rd_T36 x0_1 0).f0) ((rd_T36 x0_1 0).f1) ((rd_T36 x0_1 0).f2) ((rd_T36 x0_1 0).f3) ((rd_T36 x1_1 0).f0) ((rd_T36 x1_1 0).f1) ((rd_T36 x1_1 0).f2) ((rd_T36 x1_1 0).f3)).bind fun t123 => (if t123 = true then (if x7_1.length < 2932031007402 then (if 1 ≤ (x0_1.length : Int) then (api_Entry_36.l0 kj3 (x0_1.drop 1) x1_1 (x7_1 ++ [(⟨(rd_T36 x0_1 0).f0, (rd_T36 x0_1 0).f1, (rd_T36 x0_1 0).f2, (rd_T36 x0_1 0).f3⟩ : S36)])) else (none)) else (none)) else ((table_Less.f kj3 ((rd_T36 x1_1 0).f0) ((rd_T36 x1_1 0).f1) ((rd_T36 x1_1 0).f2) ((rd_T36 x1_1 0).f3) ((rd_T36 x0_1 0).f0) ((rd_T36 x0_1 0).f1) ((rd_T36 x0_1 0).f2) ((rd_T36 x0_1 0).f3)).bind fun t135 => (if t135 = true then (if x7_1.length < 2932031007402 then (if 1 ≤ (x1_1.length : Int) then (api_Entry_36.l0 kj3 x0_1 (x1_1.drop 1) (x7_1 ++ [(⟨(rd_T36 x1_1 0).f0, (rd_T36 x1_1 0).f1, (rd_T36 x1_1 0).f2, (rd_T36 x1_1 0).f3⟩ : S36)])) else (none)) else (none)) else (if 1 ≤ (x1_1.length : Int) then (api_Entry_36.l0 kj3 x0_1 (x1_1.drop 1) x7_1) else (none)))))) else (none)) else (none)) = some r := by rw [if_pos rfl] at H; exact H
      clear H
      have H := H1
      clear H1
      by_cases c10 : 0 < (x0_1.length : Int)
      ·rw [if_pos c10] at H
       have c10b0 : decide (0 < (x0_1.length : Int)) = true := decide_eq_true c10
       have c10b1 : decide (0 < x0_1.length) = true := decide_eq_true (by omega)
       clear c10
       by_cases c11 : 0 < (x1_1.length : Int)
       ·rw [if_pos c11] at H
        have c11b0 : decide (0 < (x1_1.length : Int)) = true := decide_eq_true c11
        have c11b1 : decide (0 < x1_1.length) = true := decide_eq_true (by omega)
        clear c11
        replace H := Option.bind_eq_some_iff.mp H
        obtain ⟨t123, A120, H⟩ := H
        replace H : (if t123 = true then (if x7_1.length < 2932031007402 then (if 1 ≤ (x0_1.length : Int) then (api_Entry_36.l0 kj3 (x0_1.drop 1) x1_1 (x7_1 ++ [(⟨(rd_T36 x0_1 0).f0, (rd_T36 x0_1 0).f1, (rd_T36 x0_1 0).f2, (rd_T36 x0_1 0).f3⟩ : S36)])) else (none)) else (none)) else ((table_Less.f kj3 ((rd_T36 x1_1 0).f0) ((rd_T36 x1_1 0).f1) ((rd_T36 x1_1 0).f2) ((rd_T36 x1_1 0).f3) ((rd_T36 x0_1 0).f0) ((rd_T36 x0_1 0).f1) ((rd_T36 x0_1 0).f2) ((rd_T36 x0_1 0).f3)).bind fun t135 => (if t135 = true then (if x7_1.length < 2932031007402 then (if 1 ≤ (x1_1.length : Int) then (api_Entry_36.l0 kj3 x0_1 (x1_1.drop 1) (x7_1 ++ [(⟨(rd_T36 x1_1 0).f0, (rd_T36 x1_1 0).f1, (rd_T36 x1_1 0).f2, (rd_T36 x1_1 0).f3⟩ : S36)])) else (none)) else (none)) else (if 1 ≤ (x1_1.length : Int) then (api_Entry_36.l0 kj3 x0_1 (x1_1.drop 1) x7_1) else (none))))) = some r := H
        have A12 := Aside0.mk A120
        clear A120
        by_cases c13 : t123 = true
        ·subst c13
         have H1 : (if x7_1.length < 2932031007402 then (if 1 ≤ (x0_1.length : Int) then (api_Entry_36.l0 kj3 (x0_1.drop 1) x1_1 (x7_1 ++ [(⟨(rd_T36 x0_1 0).f0, (rd_T36 x0_1 0).f1, (rd_T36 x0_1 0).f2, (rd_T36 x0_1 0).f3⟩ : S36)])) else (none)) else (none)) = some r := by rw [if_pos rfl] at H; exact H
         clear H
         have H := H1
         clear H1
         by_cases c14 : x7_1.length < 2932031007402
         ·rw [if_pos c14] at H
          have LMc14 := Aside0.mk c14
          clear c14
          obtain ⟨y125, hy125⟩ : ∃ y_ : List (S36), y_ = (x7_1 ++ [(⟨(rd_T36 x0_1 0).f0, (rd_T36 x0_1 0).f1, (rd_T36 x0_1 0).f2, (rd_T36 x0_1 0).f3⟩ : S36)]) := ⟨_, rfl⟩
          replace H : (if 1 ≤ (x0_1.length : Int) then (api_Entry_36.l0 kj3 (x0_1.drop 1) x1_1 y125) else (none)) = some r := by first | (rw [hy125]; with_reducible exact H) | (have H2_ := (Option.bind_some _ _).symm.trans H; rw [hy125]; with_reducible exact H2_) | (have H2_ := (Option.bind_some _ _).symm.trans H; with_reducible exact H2_) | with_reducible exact H | (rw [hy125]; exact H) | exact H
          have Ny125 := Aside0.mk hy125
          clear hy125
          by_cases c15 : 1 ≤ (x0_1.length : Int)
          ·rw [if_pos c15] at H
           have c15b0 := eq_true c15
           have c15b1 : decide (1 ≤ (x0_1.length : Int)) = true := decide_eq_true c15
           clear c15
           obtain ⟨y128, hy128⟩ : ∃ y_ : List (S36), y_ = (x0_1.drop 1) := ⟨_, rfl⟩
           replace H : (api_Entry_36.l0 kj3 y128 x1_1 y125) = some r := by first | (rw [hy128]; with_reducible exact H) | (have H2_ := (Option.bind_some _ _).symm.trans H; rw [hy128]; with_reducible exact H2_) | (have H2_ := (Option.bind_some _ _).symm.trans H; with_reducible exact H2_) | with_reducible exact H | (rw [hy128]; exact H) | exact H
           have Ny128 := Aside0.mk hy128
           clear hy128
           have H' := Aside0.mk H
           clear H
           try go_wp2
           have n0_ := Aside0.mk (Kd.V_drew HO_0.out)
           have n1_ := Aside0.mk (Kd.V_drew HO_1.out)
           have n2_ := Aside0.mk (Kd.R_drew HO_7.out)
           have n3_ := Aside0.mk (below_drew1 HB.out)
           clear HO_0
           clear HO_1
           clear HO_7
           clear HB
           have HO_0 := n0_
           have HO_1 := n1_
           have HO_7 := n2_
           have HB := n3_
           clear n0_ n1_ n2_ n3_
           obtain ⟨Ao17, co17, eo17⟩ := Kd.V_slice HO_0.out
           (first | subst eo17 | (injection eo17 with f1_ f2_ f3_; have f4_ := f1_.symm; have f5_ := f3_.symm; clear f1_ f2_ f3_; subst f4_; subst f5_))
           have p121 : 0 ≤ (0 : Int) := (by omega)
           have q121 : 0 < (x0_1.length : Int) := of_decide_eq_true (by first | (with_reducible assumption) | assumption)
           obtain ⟨ad121, e121, hx121_0, hx121_1, hx121_2, hx121_3⟩ := at_T36 (Kd.V_reads' HO_0.out).2.2 0 p121 q121
           cases e121
           have qi121 : (0 < x0_1.length) = True := eq_true (by omega)
           (try rw [show ((0 : Int)).toNat = 0 from rfl] at hx121_0)
           (try rw [show 0 * 4 = 0 from rfl] at hx121_0)
           (try rw [Addr.add_zero'] at hx121_0)
           (try rw [show ((0 : Int)).toNat = 0 from rfl] at hx121_1)
           (try rw [show 0 * 4 = 0 from rfl] at hx121_1)
           (try rw [Addr.add_zero'] at hx121_1)
           (try rw [show ((0 : Int)).toNat = 0 from rfl] at hx121_2)
           (try rw [show 0 * 4 = 0 from rfl] at hx121_2)
           (try rw [Addr.add_zero'] at hx121_2)
           (try rw [show ((0 : Int)).toNat = 0 from rfl] at hx121_3)
           (try rw [show 0 * 4 = 0 from rfl] at hx121_3)
           (try rw [Addr.add_zero'] at hx121_3)
           replace p121 := eq_true p121
           replace q121 := eq_true q121
           obtain ⟨Ao18, co18, eo18⟩ := Kd.V_slice HO_1.out
           (first | subst eo18 | (injection eo18 with f1_ f2_ f3_; have f4_ := f1_.symm; have f5_ := f3_.symm; clear f1_ f2_ f3_; subst f4_; subst f5_))
           have p122 : 0 ≤ (0 : Int) := (by omega)
           have q122 : 0 < (x1_1.length : Int) := of_decide_eq_true (by first | (with_reducible assumption) | assumption)
           obtain ⟨ad122, e122, hx122_0, hx122_1, hx122_2, hx122_3⟩ := at_T36 (Kd.V_reads' HO_1.out).2.2 0 p122 q122
           cases e122
           have qi122 : (0 < x1_1.length) = True := eq_true (by omega)
           (try rw [show ((0 : Int)).toNat = 0 from rfl] at hx122_0)
           (try rw [show 0 * 4 = 0 from rfl] at hx122_0)
           (try rw [Addr.add_zero'] at hx122_0)
           (try rw [show ((0 : Int)).toNat = 0 from rfl] at hx122_1)
           (try rw [show 0 * 4 = 0 from rfl] at hx122_1)
           (try rw [Addr.add_zero'] at hx122_1)
           (try rw [show ((0 : Int)).toNat = 0 from rfl] at hx122_2)
           (try rw [show 0 * 4 = 0 from rfl] at hx122_2)
           (try rw [Addr.add_zero'] at hx122_2)
           (try rw [show ((0 : Int)).toNat = 0 from rfl] at hx122_3)
           (try rw [show 0 * 4 = 0 from rfl] at hx122_3)
           (try rw [Addr.add_zero'] at hx122_3)
           replace p122 := eq_true p122
           replace q122 := eq_true q122
           refine start_ (n := 9) (S := fun w' => w'.cell? ad121 = some (.string ((rd_T36 x0_1 0).f0)) ∧ w'.cell? ⟨ad121.block, ad121.off + 1, none⟩ = some (.int .i64 ((rd_T36 x0_1 0).f1)) ∧ w'.cell? ⟨ad121.block, ad121.off + 2, none⟩ = some (.bool ((rd_T36 x0_1 0).f2)) ∧ w'.cell? ⟨ad121.block, ad121.off + 3, none⟩ = some (.string ((rd_T36 x0_1 0).f3)) ∧ w'.cell? ad122 = some (.string ((rd_T36 x1_1 0).f0)) ∧ w'.cell? ⟨ad122.block, ad122.off + 1, none⟩ = some (.int .i64 ((rd_T36 x1_1 0).f1)) ∧ w'.cell? ⟨ad122.block, ad122.off + 2, none⟩ = some (.bool ((rd_T36 x1_1 0).f2)) ∧ w'.cell? ⟨ad122.block, ad122.off + 3, none⟩ = some (.string ((rd_T36 x1_1 0).f3))) (ds := []) #[ff, ff, ff, ff, ff, ff, ff, ff, ff] (by kernel_rfl) rfl rfl ⟨hx121_0, hx121_1, hx121_2, hx121_3, hx122_0, hx122_1, hx122_2, hx122_3⟩ (fun hHeld => ?_); refine with_tabW api_Entry_36.tab4 api_Entry_36.bits4 (fun HT_ HW_ => ?_)
           generalize wc.drew = w16 at HO_0 HO_1 HO_7 HB hx121_0 hx121_1 hx121_2 hx121_3 hx122_0 hx122_1 hx122_2 hx122_3 hHeld ⊢
           refine pq_ (i := 0) (N := some 19) HT_ #[tt, ff, ff, ff, ff, ff, ff, ff, ff] ?_
           refine pq_ (i := 1) (N := some 20) HT_ #[tt, tt, ff, ff, ff, ff, ff, ff, ff] ?_
           refine pq_ (i := 2) (N := some 21) HT_ #[tt, tt, tt, ff, ff, ff, ff, ff, ff] ?_
           refine pq_ (i := 4) (N := some 23) HT_ #[tt, tt, tt, ff, tt, ff, ff, ff, ff] ?_
           refine pq_ (i := 5) (N := some 24) HT_ #[tt, tt, tt, ff, tt, tt, ff, ff, ff] ?_
           refine take_ (i := 3) (N := some 22) (v := ?_) (a' := ?_) #[tt, tt, tt, tt, tt, tt, ff, ff, ff] rfl rfl (take_ofW HT_.out HW_.out (by kernel_rfl)) (fun _ _ _ h => h) (Or.inl ⟨by rfl, ?_⟩) hHeld ?_ ?_
           rotate_left
           ·rintro w' ⟨s0, s1, s2, s3, s4, s5, s6, s7⟩
            go_simp
            with_reducible rfl
           rotate_left
           ·simp only [Act.put, List.setIfInBounds_toArray, List.set_cons_zero, List.set_cons_succ, i64_w, i32_w]
            rfl
           refine take_ (i := 6) (N := some 25) (v := ?_) (a' := ?_) #[tt, tt, tt, tt, tt, tt, tt, ff, ff] rfl rfl (take_ofW HT_.out HW_.out (by kernel_rfl)) (fun _ _ _ h => h) (Or.inl ⟨by rfl, ?_⟩) hHeld ?_ ?_
           rotate_left
           ·rintro w' ⟨s0, s1, s2, s3, s4, s5, s6, s7⟩
            go_simp
            with_reducible rfl
           rotate_left
           ·simp only [Act.put, List.setIfInBounds_toArray, List.set_cons_zero, List.set_cons_succ, i64_w, i32_w]
            rfl
           refine one_ (i := 7) (N := some 26) #[tt, tt, tt, tt, tt, tt, tt, tt, ff] rfl rfl (one_of HT_.out (by kernel_rfl)) (by decide) (fun K hK => ?_)
           (first | refine goes_ Try.func26 (by kernel_rfl) rfl #[.agg #[.string ((rd_T36 x0_1 0).f0), .int .i64 ((rd_T36 x0_1 0).f1), .bool ((rd_T36 x0_1 0).f2), .string ((rd_T36 x0_1 0).f3)], .agg #[.string ((rd_T36 x1_1 0).f0), .int .i64 ((rd_T36 x1_1 0).f1), .bool ((rd_T36 x1_1 0).f2), .string ((rd_T36 x1_1 0).f3)]] (by rfl) rfl rfl (by (try simp only [List.map_toArray, List.map_cons, List.map_nil]); first | done | rfl | (simp only [List.length_drop, List.length_take]; rfl)) ?_ | refine goesV_ Try.func26 (by kernel_rfl) rfl #[.agg #[.string ((rd_T36 x0_1 0).f0), .int .i64 ((rd_T36 x0_1 0).f1), .bool ((rd_T36 x0_1 0).f2), .string ((rd_T36 x0_1 0).f3)], .agg #[.string ((rd_T36 x1_1 0).f0), .int .i64 ((rd_T36 x1_1 0).f1), .bool ((rd_T36 x1_1 0).f2), .string ((rd_T36 x1_1 0).f3)]] (by rfl) rfl rfl rfl (by (try simp only [List.map_toArray, List.map_cons, List.map_nil]); first | done | rfl | (simp only [List.length_drop, List.length_take]; rfl)) ?_)
           with_reducible refine (table_Less.calls kj3 ((rd_T36 x0_1 0).f0) ((rd_T36 x0_1 0).f1) ((rd_T36 x0_1 0).f2) ((rd_T36 x0_1 0).f3) ((rd_T36 x1_1 0).f0) ((rd_T36 x1_1 0).f1) ((rd_T36 x1_1 0).f2) ((rd_T36 x1_1 0).f3) true _ A12.out).mono ?_
           rintro e w19 ⟨rfl, hb⟩
           have HS0_ := (hb.cell (World.block_lt_of_cell? _ _ (hHeld.1))).trans (hHeld.1)
           have HS1_ := (hb.cell (World.block_lt_of_cell? _ _ (hHeld.2.1))).trans (hHeld.2.1)
           have HS2_ := (hb.cell (World.block_lt_of_cell? _ _ (hHeld.2.2.1))).trans (hHeld.2.2.1)
           have HS3_ := (hb.cell (World.block_lt_of_cell? _ _ (hHeld.2.2.2.1))).trans (hHeld.2.2.2.1)
           have HS4_ := (hb.cell (World.block_lt_of_cell? _ _ (hHeld.2.2.2.2.1))).trans (hHeld.2.2.2.2.1)
           have HS5_ := (hb.cell (World.block_lt_of_cell? _ _ (hHeld.2.2.2.2.2.1))).trans (hHeld.2.2.2.2.2.1)
           have HS6_ := (hb.cell (World.block_lt_of_cell? _ _ (hHeld.2.2.2.2.2.2.1))).trans (hHeld.2.2.2.2.2.2.1)
           have HS7_ := (hb.cell (World.block_lt_of_cell? _ _ (hHeld.2.2.2.2.2.2.2))).trans (hHeld.2.2.2.2.2.2.2)
           refine ⟨_, rfl, ?_⟩
           have n0_ := Aside0.mk (Kd.V_below HO_0.out hb)
           have n1_ := Aside0.mk (Kd.V_below HO_1.out hb)
           have n2_ := Aside0.mk (Kd.R_below HO_7.out hb)
           have n3_ := Aside0.mk (below_step HB.out hb)
           clear HO_0
           clear HO_1
           clear HO_7
           clear HB
           have HO_0 := n0_
           have HO_1 := n1_
           have HO_7 := n2_
           have HB := n3_
           clear n0_ n1_ n2_ n3_
           (try clear hb)
           (try clear hb2)
           (try clear hk)
           (try clear hi)
           refine hK.out _ _ ⟨HS0_, HS1_, HS2_, HS3_, HS4_, HS5_, HS6_, HS7_⟩ (fun hHeld => ?_)
           clear hK K
           refine norm_ (a' := ?_) ?_ ?_
           rotate_left
           ·show Act.put _ (some 26) _ = _
            simp only [Act.put, List.setIfInBounds_toArray, List.set_cons_zero, List.set_cons_succ, i64_w, i32_w]
            rfl
           refine pq_ (i := 8) (N := some 18) HT_ #[tt, tt, tt, tt, tt, tt, tt, tt, tt] ?_
           refine done_ (done_of HT_.out (by kernel_rfl)) ?_
           try go_wp2
           have n0_ := Aside0.mk (Kd.V_drew HO_0.out)
           have n1_ := Aside0.mk (Kd.V_drew HO_1.out)
           have n2_ := Aside0.mk (Kd.R_drew HO_7.out)
           have n3_ := Aside0.mk (below_drew1 HB.out)
           clear HO_0
           clear HO_1
           clear HO_7
           clear HB
           have HO_0 := n0_
           have HO_1 := n1_
           have HO_7 := n2_
           have HB := n3_
           clear n0_ n1_ n2_ n3_
           have p124 : 0 ≤ (0 : Int) := (by omega)
           have q124 : 0 < (x0_1.length : Int) := of_decide_eq_true (by first | (with_reducible assumption) | assumption)
           obtain ⟨ad124, e124, hx124_0, hx124_1, hx124_2, hx124_3⟩ := at_T36 (Kd.V_reads' HO_0.out).2.2 0 p124 q124
           obtain rfl : ad121 = ad124 := (by injection e124)
           have qi124 : (0 < x0_1.length) = True := eq_true (by omega)
           (try rw [show ((0 : Int)).toNat = 0 from rfl] at hx124_0)
           (try rw [show 0 * 4 = 0 from rfl] at hx124_0)
           (try rw [Addr.add_zero'] at hx124_0)
           (try rw [show ((0 : Int)).toNat = 0 from rfl] at hx124_1)
           (try rw [show 0 * 4 = 0 from rfl] at hx124_1)
           (try rw [Addr.add_zero'] at hx124_1)
           (try rw [show ((0 : Int)).toNat = 0 from rfl] at hx124_2)
           (try rw [show 0 * 4 = 0 from rfl] at hx124_2)
           (try rw [Addr.add_zero'] at hx124_2)
           (try rw [show ((0 : Int)).toNat = 0 from rfl] at hx124_3)
           (try rw [show 0 * 4 = 0 from rfl] at hx124_3)
           (try rw [Addr.add_zero'] at hx124_3)
           replace p124 := eq_true p124
           replace q124 := eq_true q124
           have q21 : (1 : Int) ≤ ((x0_1.length : Int) : Int) := of_decide_eq_true (by first | (with_reducible assumption) | assumption)
           obtain ⟨i021, hi021, _, hsz21, _⟩ := info_parts info36
           have hroom21 : x0_1.length ≤ co17 := (Kd.V_reads' HO_0.out).2.1
           have hC21 : Kd.F k36 _ _ (some ad121) x0_1.length x0_1 := (Kd.V_at (base := w.heap.size) HO_0.out).2.2
           have hcut21 := cut_from (P := Try.prog) 27 36 .i64 Try.underlying27 hi021 4 hsz21 (some ad121) x0_1.length co17 1 (by omega) q21
           have hr21 := Kd.F_cut (m := (1 : Int).toNat) (c := co17) hC21 (by omega) hroom21
           obtain ⟨A21, hA21⟩ : ∃ A1, A1 = (if co17 = (1 : Int).toNat then (some ad121) else ((some ad121) : Option Addr).map (·.add ((1 : Int).toNat * 4))) := ⟨_, rfl⟩
           obtain ⟨c21, hc21⟩ : ∃ c1, c1 = co17 - (1 : Int).toNat := ⟨_, rfl⟩
           have hy21 : y128.length = x0_1.length - (1 : Int).toNat := (by rw [Ny128.out, List.length_drop] <;> omega)
           rw [show (x0_1).drop (1 : Int).toNat = y128 from Ny128.out.symm] at hr21
           replace hr21 : Kd.F k36 _ _ A21 y128.length y128 := (by rw [hA21]; exact hr21)
           rw [← hy21, ← hA21, ← hc21] at hcut21
           have HO132 := Aside0.mk (show Kd.V k36 36 _ w.heap.size _ (.slice A21 y128.length c21) y128 from Kd.V_mk (by rw [hy21, hc21]; exact Nat.sub_le_sub_right hroom21 _) hr21)
           have HC132 := Aside0.mk (show y128.length ≤ c21 from by rw [hy21, hc21]; exact Nat.sub_le_sub_right hroom21 _)
           clear hr21 hC21 hroom21 hi021 hsz21 hc21
           have KY21 := Aside0.mk hy21
           have KA21 := Aside0.mk hA21
           clear hy21 hA21
           replace q21 := eq_true q21
           refine start_ (n := 10) (S := fun w' => w'.cell? ad121 = some (.string ((rd_T36 x0_1 0).f0)) ∧ w'.cell? ⟨ad121.block, ad121.off + 1, none⟩ = some (.int .i64 ((rd_T36 x0_1 0).f1)) ∧ w'.cell? ⟨ad121.block, ad121.off + 2, none⟩ = some (.bool ((rd_T36 x0_1 0).f2)) ∧ w'.cell? ⟨ad121.block, ad121.off + 3, none⟩ = some (.string ((rd_T36 x0_1 0).f3))) (ds := [4, 5]) #[ff, ff, ff, ff, ff, ff, ff, ff, ff, ff] (by kernel_rfl) rfl rfl ⟨hx124_0, hx124_1, hx124_2, hx124_3⟩ (fun hHeld => ?_); refine with_tabW api_Entry_36.tab5 api_Entry_36.bits5 (fun HT_ HW_ => ?_)
           generalize w19.drew = w20 at HO_0 HO_1 HO_7 HB HO132 hx124_0 hx124_1 hx124_2 hx124_3 hHeld ⊢
           refine pq_ (i := 0) (N := some 27) HT_ #[tt, ff, ff, ff, ff, ff, ff, ff, ff, ff] ?_
           refine pq_ (i := 1) (N := some 28) HT_ #[tt, tt, ff, ff, ff, ff, ff, ff, ff, ff] ?_
           refine pq_ (i := 2) (N := some 29) HT_ #[tt, tt, tt, ff, ff, ff, ff, ff, ff, ff] ?_
           refine pq_ (i := 6) (N := some 33) HT_ #[tt, tt, tt, ff, ff, ff, tt, ff, ff, ff] ?_
           refine pq_ (i := 7) (N := some 34) HT_ #[tt, tt, tt, ff, ff, ff, tt, tt, ff, ff] ?_
           refine take_ (i := 3) (N := some 30) (v := ?_) (a' := ?_) #[tt, tt, tt, tt, ff, ff, tt, tt, ff, ff] rfl rfl (take_ofW HT_.out HW_.out (by kernel_rfl)) (fun _ _ _ h => h) (Or.inl ⟨by rfl, ?_⟩) hHeld ?_ ?_
           rotate_left
           ·rintro w' ⟨s0, s1, s2, s3⟩
            go_simp
            with_reducible rfl
           rotate_left
           ·simp only [Act.put, List.setIfInBounds_toArray, List.set_cons_zero, List.set_cons_succ, i64_w, i32_w]
            rfl
           refine last_ (i := 4) (N := some 31) #[tt, tt, tt, tt, tt, ff, tt, tt, ff, ff] rfl rfl (one_of HT_.out (by kernel_rfl)) (by decide) (fun K hK => ?_)
           refine value_ (w1 := ?_) (v := ?_) (by rfl) rfl ?_ ?_
           rotate_left 2
           ·go_simp
            constructor
            ·rfl
            ·rfl
           refine hK.out _ _ ?_
           clear hK K
           refine norm_ (a' := ?_) ?_ ?_
           rotate_left
           ·show Act.put _ (some 31) _ = _
            simp only [Act.put, List.setIfInBounds_toArray, List.set_cons_zero, List.set_cons_succ, i64_w, i32_w]
            rfl
           refine last_ (i := 5) (N := some 32) #[tt, tt, tt, tt, tt, tt, tt, tt, ff, ff] rfl rfl (one_of HT_.out (by kernel_rfl)) (by decide) (fun K hK => ?_)
           refine Kd.R_append_step k36 (w0 := w) w.heap.size (by rfl) (.tmp 27) (.tmp 31) 27 36 (.agg #[(.string ⟨#[]⟩), (.int .i64 0), (.bool false), (.string ⟨#[]⟩)]) 48 rfl Try.underlying27 info36 rfl (by decide) (by omega) u7 x7_1 (⟨(rd_T36 x0_1 0).f0, (rd_T36 x0_1 0).f1, (rd_T36 x0_1 0).f2, (rd_T36 x0_1 0).f3⟩ : S36) [.string ((rd_T36 x0_1 0).f0), .int .i64 ((rd_T36 x0_1 0).f1), .bool ((rd_T36 x0_1 0).f2), .string ((rd_T36 x0_1 0).f3)] (fun k_ => (w.heap.size ≤ k_)) (fun _ => False) rfl rfl ?aP (fun _ hk => hk.elim) ?aF ?aO ?aB ?aS ?aL ?_
           (case aP => exact k36_mkM _ _ _ (⟨(rd_T36 x0_1 0).f0, (rd_T36 x0_1 0).f1, (rd_T36 x0_1 0).f2, (rd_T36 x0_1 0).f3⟩ : S36))
           (case aB => exact HB.out)
           (case aF => exact (fun k_ hk => (Nat.le_trans (below_size HB.out) hk)))
           (case aO => exact HO_7.out)
           (case aS => exact (below_size HB.out))
           (case aL => have := LMc14.out; omega)
           intro v126 w22 ho hb hg hat
           rw [← Ny125.out] at ho
           have n0_ := Aside0.mk (Kd.V_afterv (ok := (fun k_ => ((P0_ k_ ∨ P1_ k_) ∨ w.heap.size ≤ k_))) HO_0.out hg hat)
           have n1_ := Aside0.mk (Kd.V_afterv (ok := (fun k_ => ((P0_ k_ ∨ P1_ k_) ∨ w.heap.size ≤ k_))) HO_1.out hg hat)
           have n2_ := Aside0.mk (Kd.V_afterv (ok := (fun k_ => ((P0_ k_ ∨ P1_ k_) ∨ w.heap.size ≤ k_))) HO132.out hg hat)
           have n3_ := Aside0.mk (hb)
           have n4_ := Aside0.mk (ho)
           clear HO_0
           clear HO_1
           clear HO132
           clear HB
           clear HO_7
           have HO_0 := n0_
           have HO_1 := n1_
           have HO132 := n2_
           have HB := n3_
           have HO127 := n4_
           clear n0_ n1_ n2_ n3_ n4_
           clear ho hb hg hat
           refine hK.out _ _ ?_
           clear hK K
           refine norm_ (a' := ?_) ?_ ?_
           rotate_left
           ·show Act.put _ (some 32) _ = _
            simp only [Act.put, List.setIfInBounds_toArray, List.set_cons_zero, List.set_cons_succ, i64_w, i32_w]
            rfl
           refine pq_ (i := 8) (N := some 7) HT_ #[tt, tt, tt, tt, tt, tt, tt, tt, tt, ff] ?_
           refine pq_ (i := 9) (N := some 0) HT_ #[tt, tt, tt, tt, tt, tt, tt, tt, tt, tt] ?_
           refine done_ (done_of HT_.out (by kernel_rfl)) ?_
           try go_wp2
           go_roundg kj3
           case measure => have := HK1.out; have := HJ3.out; omega
           case rel => exact ⟨(y128), (x1_1), (y125), H', ⟨by have := HK1.out; have := HJ3.out; omega⟩, ⟨by (with_reducible repeat (first | apply Kd.V_alloc | apply Kd.V_drewN | apply Kd.V_drew)); exact HO132.out⟩, ⟨by (with_reducible repeat (first | apply Kd.V_alloc | apply Kd.V_drewN | apply Kd.V_drew)); exact HO_1.out⟩, ⟨by (with_reducible repeat (first | apply Kd.R_alloc | apply Kd.R_drewN | apply Kd.R_drew)); exact HO127.out⟩, ⟨by repeat (first | (with_reducible first | exact HB.out | apply below_alloc | apply pw_below_drewN | apply below_drew1) | exact HB.out)⟩⟩
          ·rw [if_neg c15] at H
           exact absurd H (by simp)
         ·rw [if_neg c14] at H
          exact absurd H (by simp)
        ·replace c13 := Bool.eq_false_iff.mpr c13
         subst c13
         have H1 : ((table_Less.f kj3 ((rd_T36 x1_1 0).f0) ((rd_T36 x1_1 0).f1) ((rd_T36 x1_1 0).f2) ((rd_T36 x1_1 0).f3) ((rd_T36 x0_1 0).f0) ((rd_T36 x0_1 0).f1) ((rd_T36 x0_1 0).f2) ((rd_T36 x0_1 0).f3)).bind fun t135 => (if t135 = true then (if x7_1.length < 2932031007402 then (if 1 ≤ (x1_1.length : Int) then (api_Entry_36.l0 kj3 x0_1 (x1_1.drop 1) (x7_1 ++ [(⟨(rd_T36 x1_1 0).f0, (rd_T36 x1_1 0).f1, (rd_T36 x1_1 0).f2, (rd_T36 x1_1 0).f3⟩ : S36)])) else (none)) else (none)) else (if 1 ≤ (x1_1.length : Int) then (api_Entry_36.l0 kj3 x0_1 (x1_1.drop 1) x7_1) else (none)))) = some r := by rw [if_neg (show ¬ (false = true) by decide)] at H; exact H
         clear H
         have H := H1
         clear H1
         replace H := Option.bind_eq_some_iff.mp H
         obtain ⟨t135, A230, H⟩ := H
         replace H : (if t135 = true then (if x7_1.length < 2932031007402 then (if 1 ≤ (x1_1.length : Int) then (api_Entry_36.l0 kj3 x0_1 (x1_1.drop 1) (x7_1 ++ [(⟨(rd_T36 x1_1 0).f0, (rd_T36 x1_1 0).f1, (rd_T36 x1_1 0).f2, (rd_T36 x1_1 0).f3⟩ : S36)])) else (none)) else (none)) else (if 1 ≤ (x1_1.length : Int) then (api_Entry_36.l0 kj3 x0_1 (x1_1.drop 1) x7_1) else (none))) = some r := H
         have A23 := Aside0.mk A230
         clear A230
         by_cases c24 : t135 = true
         ·subst c24
          have H1 : (if x7_1.length < 2932031007402 then (if 1 ≤ (x1_1.length : Int) then (api_Entry_36.l0 kj3 x0_1 (x1_1.drop 1) (x7_1 ++ [(⟨(rd_T36 x1_1 0).f0, (rd_T36 x1_1 0).f1, (rd_T36 x1_1 0).f2, (rd_T36 x1_1 0).f3⟩ : S36)])) else (none)) else (none)) = some r := by rw [if_pos rfl] at H; exact H
          clear H
          have H := H1
          clear H1
          by_cases c25 : x7_1.length < 2932031007402
          ·rw [if_pos c25] at H
           have LMc25 := Aside0.mk c25
           clear c25
           obtain ⟨y137, hy137⟩ : ∃ y_ : List (S36), y_ = (x7_1 ++ [(⟨(rd_T36 x1_1 0).f0, (rd_T36 x1_1 0).f1, (rd_T36 x1_1 0).f2, (rd_T36 x1_1 0).f3⟩ : S36)]) := ⟨_, rfl⟩
           replace H : (if 1 ≤ (x1_1.length : Int) then (api_Entry_36.l0 kj3 x0_1 (x1_1.drop 1) y137) else (none)) = some r := by first | (rw [hy137]; with_reducible exact H) | (have H2_ := (Option.bind_some _ _).symm.trans H; rw [hy137]; with_reducible exact H2_) | (have H2_ := (Option.bind_some _ _).symm.trans H; with_reducible exact H2_) | with_reducible exact H | (rw [hy137]; exact H) | exact H
           have Ny137 := Aside0.mk hy137
           clear hy137
           by_cases c26 : 1 ≤ (x1_1.length : Int)
           ·rw [if_pos c26] at H
            have c26b0 := eq_true c26
            have c26b1 : decide (1 ≤ (x1_1.length : Int)) = true := decide_eq_true c26
            clear c26
            obtain ⟨y140, hy140⟩ : ∃ y_ : List (S36), y_ = (x1_1.drop 1) := ⟨_, rfl⟩
            replace H : (api_Entry_36.l0 kj3 x0_1 y140 y137) = some r := by first | (rw [hy140]; with_reducible exact H) | (have H2_ := (Option.bind_some _ _).symm.trans H; rw [hy140]; with_reducible exact H2_) | (have H2_ := (Option.bind_some _ _).symm.trans H; with_reducible exact H2_) | with_reducible exact H | (rw [hy140]; exact H) | exact H
            have Ny140 := Aside0.mk hy140
            clear hy140
            have H' := Aside0.mk H
            clear H
            try go_wp2
            have n0_ := Aside0.mk (Kd.V_drew HO_0.out)
            have n1_ := Aside0.mk (Kd.V_drew HO_1.out)
            have n2_ := Aside0.mk (Kd.R_drew HO_7.out)
            have n3_ := Aside0.mk (below_drew1 HB.out)
            clear HO_0
            clear HO_1
            clear HO_7
            clear HB
            have HO_0 := n0_
            have HO_1 := n1_
            have HO_7 := n2_
            have HB := n3_
            clear n0_ n1_ n2_ n3_
            obtain ⟨Ao28, co28, eo28⟩ := Kd.V_slice HO_0.out
            (first | subst eo28 | (injection eo28 with f1_ f2_ f3_; have f4_ := f1_.symm; have f5_ := f3_.symm; clear f1_ f2_ f3_; subst f4_; subst f5_))
            have p121 : 0 ≤ (0 : Int) := (by omega)
            have q121 : 0 < (x0_1.length : Int) := of_decide_eq_true (by first | (with_reducible assumption) | assumption)
            obtain ⟨ad121, e121, hx121_0, hx121_1, hx121_2, hx121_3⟩ := at_T36 (Kd.V_reads' HO_0.out).2.2 0 p121 q121
            cases e121
            have qi121 : (0 < x0_1.length) = True := eq_true (by omega)
            (try rw [show ((0 : Int)).toNat = 0 from rfl] at hx121_0)
            (try rw [show 0 * 4 = 0 from rfl] at hx121_0)
            (try rw [Addr.add_zero'] at hx121_0)
            (try rw [show ((0 : Int)).toNat = 0 from rfl] at hx121_1)
            (try rw [show 0 * 4 = 0 from rfl] at hx121_1)
            (try rw [Addr.add_zero'] at hx121_1)
            (try rw [show ((0 : Int)).toNat = 0 from rfl] at hx121_2)
            (try rw [show 0 * 4 = 0 from rfl] at hx121_2)
            (try rw [Addr.add_zero'] at hx121_2)
            (try rw [show ((0 : Int)).toNat = 0 from rfl] at hx121_3)
            (try rw [show 0 * 4 = 0 from rfl] at hx121_3)
            (try rw [Addr.add_zero'] at hx121_3)
            replace p121 := eq_true p121
            replace q121 := eq_true q121
            obtain ⟨Ao29, co29, eo29⟩ := Kd.V_slice HO_1.out
            (first | subst eo29 | (injection eo29 with f1_ f2_ f3_; have f4_ := f1_.symm; have f5_ := f3_.symm; clear f1_ f2_ f3_; subst f4_; subst f5_))
            have p122 : 0 ≤ (0 : Int) := (by omega)
            have q122 : 0 < (x1_1.length : Int) := of_decide_eq_true (by first | (with_reducible assumption) | assumption)
            obtain ⟨ad122, e122, hx122_0, hx122_1, hx122_2, hx122_3⟩ := at_T36 (Kd.V_reads' HO_1.out).2.2 0 p122 q122
            cases e122
            have qi122 : (0 < x1_1.length) = True := eq_true (by omega)
            (try rw [show ((0 : Int)).toNat = 0 from rfl] at hx122_0)
            (try rw [show 0 * 4 = 0 from rfl] at hx122_0)
            (try rw [Addr.add_zero'] at hx122_0)
            (try rw [show ((0 : Int)).toNat = 0 from rfl] at hx122_1)
            (try rw [show 0 * 4 = 0 from rfl] at hx122_1)
            (try rw [Addr.add_zero'] at hx122_1)
            (try rw [show ((0 : Int)).toNat = 0 from rfl] at hx122_2)
            (try rw [show 0 * 4 = 0 from rfl] at hx122_2)
            (try rw [Addr.add_zero'] at hx122_2)
            (try rw [show ((0 : Int)).toNat = 0 from rfl] at hx122_3)
            (try rw [show 0 * 4 = 0 from rfl] at hx122_3)
            (try rw [Addr.add_zero'] at hx122_3)
            replace p122 := eq_true p122
            replace q122 := eq_true q122
            refine start_ (n := 9) (S := fun w' => w'.cell? ad121 = some (.string ((rd_T36 x0_1 0).f0)) ∧ w'.cell? ⟨ad121.block, ad121.off + 1, none⟩ = some (.int .i64 ((rd_T36 x0_1 0).f1)) ∧ w'.cell? ⟨ad121.block, ad121.off + 2, none⟩ = some (.bool ((rd_T36 x0_1 0).f2)) ∧ w'.cell? ⟨ad121.block, ad121.off + 3, none⟩ = some (.string ((rd_T36 x0_1 0).f3)) ∧ w'.cell? ad122 = some (.string ((rd_T36 x1_1 0).f0)) ∧ w'.cell? ⟨ad122.block, ad122.off + 1, none⟩ = some (.int .i64 ((rd_T36 x1_1 0).f1)) ∧ w'.cell? ⟨ad122.block, ad122.off + 2, none⟩ = some (.bool ((rd_T36 x1_1 0).f2)) ∧ w'.cell? ⟨ad122.block, ad122.off + 3, none⟩ = some (.string ((rd_T36 x1_1 0).f3))) (ds := []) #[ff, ff, ff, ff, ff, ff, ff, ff, ff] (by kernel_rfl) rfl rfl ⟨hx121_0, hx121_1, hx121_2, hx121_3, hx122_0, hx122_1, hx122_2, hx122_3⟩ (fun hHeld => ?_); refine with_tabW api_Entry_36.tab4 api_Entry_36.bits4 (fun HT_ HW_ => ?_)
            generalize wc.drew = w27 at HO_0 HO_1 HO_7 HB hx121_0 hx121_1 hx121_2 hx121_3 hx122_0 hx122_1 hx122_2 hx122_3 hHeld ⊢
            refine pq_ (i := 0) (N := some 19) HT_ #[tt, ff, ff, ff, ff, ff, ff, ff, ff] ?_
            refine pq_ (i := 1) (N := some 20) HT_ #[tt, tt, ff, ff, ff, ff, ff, ff, ff] ?_
            refine pq_ (i := 2) (N := some 21) HT_ #[tt, tt, tt, ff, ff, ff, ff, ff, ff] ?_
            refine pq_ (i := 4) (N := some 23) HT_ #[tt, tt, tt, ff, tt, ff, ff, ff, ff] ?_
            refine pq_ (i := 5) (N := some 24) HT_ #[tt, tt, tt, ff, tt, tt, ff, ff, ff] ?_
            refine take_ (i := 3) (N := some 22) (v := ?_) (a' := ?_) #[tt, tt, tt, tt, tt, tt, ff, ff, ff] rfl rfl (take_ofW HT_.out HW_.out (by kernel_rfl)) (fun _ _ _ h => h) (Or.inl ⟨by rfl, ?_⟩) hHeld ?_ ?_
            rotate_left
            ·rintro w' ⟨s0, s1, s2, s3, s4, s5, s6, s7⟩
             go_simp
             with_reducible rfl
            rotate_left
            ·simp only [Act.put, List.setIfInBounds_toArray, List.set_cons_zero, List.set_cons_succ, i64_w, i32_w]
             rfl
            refine take_ (i := 6) (N := some 25) (v := ?_) (a' := ?_) #[tt, tt, tt, tt, tt, tt, tt, ff, ff] rfl rfl (take_ofW HT_.out HW_.out (by kernel_rfl)) (fun _ _ _ h => h) (Or.inl ⟨by rfl, ?_⟩) hHeld ?_ ?_
            rotate_left
            ·rintro w' ⟨s0, s1, s2, s3, s4, s5, s6, s7⟩
             go_simp
             with_reducible rfl
            rotate_left
            ·simp only [Act.put, List.setIfInBounds_toArray, List.set_cons_zero, List.set_cons_succ, i64_w, i32_w]
             rfl
            refine one_ (i := 7) (N := some 26) #[tt, tt, tt, tt, tt, tt, tt, tt, ff] rfl rfl (one_of HT_.out (by kernel_rfl)) (by decide) (fun K hK => ?_)
            (first | refine goes_ Try.func26 (by kernel_rfl) rfl #[.agg #[.string ((rd_T36 x0_1 0).f0), .int .i64 ((rd_T36 x0_1 0).f1), .bool ((rd_T36 x0_1 0).f2), .string ((rd_T36 x0_1 0).f3)], .agg #[.string ((rd_T36 x1_1 0).f0), .int .i64 ((rd_T36 x1_1 0).f1), .bool ((rd_T36 x1_1 0).f2), .string ((rd_T36 x1_1 0).f3)]] (by rfl) rfl rfl (by (try simp only [List.map_toArray, List.map_cons, List.map_nil]); first | done | rfl | (simp only [List.length_drop, List.length_take]; rfl)) ?_ | refine goesV_ Try.func26 (by kernel_rfl) rfl #[.agg #[.string ((rd_T36 x0_1 0).f0), .int .i64 ((rd_T36 x0_1 0).f1), .bool ((rd_T36 x0_1 0).f2), .string ((rd_T36 x0_1 0).f3)], .agg #[.string ((rd_T36 x1_1 0).f0), .int .i64 ((rd_T36 x1_1 0).f1), .bool ((rd_T36 x1_1 0).f2), .string ((rd_T36 x1_1 0).f3)]] (by rfl) rfl rfl rfl (by (try simp only [List.map_toArray, List.map_cons, List.map_nil]); first | done | rfl | (simp only [List.length_drop, List.length_take]; rfl)) ?_)
            with_reducible refine (table_Less.calls kj3 ((rd_T36 x0_1 0).f0) ((rd_T36 x0_1 0).f1) ((rd_T36 x0_1 0).f2) ((rd_T36 x0_1 0).f3) ((rd_T36 x1_1 0).f0) ((rd_T36 x1_1 0).f1) ((rd_T36 x1_1 0).f2) ((rd_T36 x1_1 0).f3) false _ A12.out).mono ?_
            rintro e w30 ⟨rfl, hb⟩
            have HS0_ := (hb.cell (World.block_lt_of_cell? _ _ (hHeld.1))).trans (hHeld.1)
            have HS1_ := (hb.cell (World.block_lt_of_cell? _ _ (hHeld.2.1))).trans (hHeld.2.1)
            have HS2_ := (hb.cell (World.block_lt_of_cell? _ _ (hHeld.2.2.1))).trans (hHeld.2.2.1)
            have HS3_ := (hb.cell (World.block_lt_of_cell? _ _ (hHeld.2.2.2.1))).trans (hHeld.2.2.2.1)
            have HS4_ := (hb.cell (World.block_lt_of_cell? _ _ (hHeld.2.2.2.2.1))).trans (hHeld.2.2.2.2.1)
            have HS5_ := (hb.cell (World.block_lt_of_cell? _ _ (hHeld.2.2.2.2.2.1))).trans (hHeld.2.2.2.2.2.1)
            have HS6_ := (hb.cell (World.block_lt_of_cell? _ _ (hHeld.2.2.2.2.2.2.1))).trans (hHeld.2.2.2.2.2.2.1)
            have HS7_ := (hb.cell (World.block_lt_of_cell? _ _ (hHeld.2.2.2.2.2.2.2))).trans (hHeld.2.2.2.2.2.2.2)
            refine ⟨_, rfl, ?_⟩
            have n0_ := Aside0.mk (Kd.V_below HO_0.out hb)
            have n1_ := Aside0.mk (Kd.V_below HO_1.out hb)
            have n2_ := Aside0.mk (Kd.R_below HO_7.out hb)
            have n3_ := Aside0.mk (below_step HB.out hb)
            clear HO_0
            clear HO_1
            clear HO_7
            clear HB
            have HO_0 := n0_
            have HO_1 := n1_
            have HO_7 := n2_
            have HB := n3_
            clear n0_ n1_ n2_ n3_
            (try clear hb)
            (try clear hb2)
            (try clear hk)
            (try clear hi)
            refine hK.out _ _ ⟨HS0_, HS1_, HS2_, HS3_, HS4_, HS5_, HS6_, HS7_⟩ (fun hHeld => ?_)
            clear hK K
            refine norm_ (a' := ?_) ?_ ?_
            rotate_left
            ·show Act.put _ (some 26) _ = _
             simp only [Act.put, List.setIfInBounds_toArray, List.set_cons_zero, List.set_cons_succ, i64_w, i32_w]
             rfl
            refine pq_ (i := 8) (N := some 18) HT_ #[tt, tt, tt, tt, tt, tt, tt, tt, tt] ?_
            refine done_ (done_of HT_.out (by kernel_rfl)) ?_
            try go_wp2
            have n0_ := Aside0.mk (Kd.V_drew HO_0.out)
            have n1_ := Aside0.mk (Kd.V_drew HO_1.out)
            have n2_ := Aside0.mk (Kd.R_drew HO_7.out)
            have n3_ := Aside0.mk (below_drew1 HB.out)
            clear HO_0
            clear HO_1
            clear HO_7
            clear HB
            have HO_0 := n0_
            have HO_1 := n1_
            have HO_7 := n2_
            have HB := n3_
            clear n0_ n1_ n2_ n3_
            have p133 : 0 ≤ (0 : Int) := (by omega)
            have q133 : 0 < (x1_1.length : Int) := of_decide_eq_true (by first | (with_reducible assumption) | assumption)
            obtain ⟨ad133, e133, hx133_0, hx133_1, hx133_2, hx133_3⟩ := at_T36 (Kd.V_reads' HO_1.out).2.2 0 p133 q133
            obtain rfl : ad122 = ad133 := (by injection e133)
            have qi133 : (0 < x1_1.length) = True := eq_true (by omega)
            (try rw [show ((0 : Int)).toNat = 0 from rfl] at hx133_0)
            (try rw [show 0 * 4 = 0 from rfl] at hx133_0)
            (try rw [Addr.add_zero'] at hx133_0)
            (try rw [show ((0 : Int)).toNat = 0 from rfl] at hx133_1)
            (try rw [show 0 * 4 = 0 from rfl] at hx133_1)
            (try rw [Addr.add_zero'] at hx133_1)
            (try rw [show ((0 : Int)).toNat = 0 from rfl] at hx133_2)
            (try rw [show 0 * 4 = 0 from rfl] at hx133_2)
            (try rw [Addr.add_zero'] at hx133_2)
            (try rw [show ((0 : Int)).toNat = 0 from rfl] at hx133_3)
            (try rw [show 0 * 4 = 0 from rfl] at hx133_3)
            (try rw [Addr.add_zero'] at hx133_3)
            replace p133 := eq_true p133
            replace q133 := eq_true q133
            have p134 : 0 ≤ (0 : Int) := (by omega)
            have q134 : 0 < (x0_1.length : Int) := of_decide_eq_true (by first | (with_reducible assumption) | assumption)
            obtain ⟨ad134, e134, hx134_0, hx134_1, hx134_2, hx134_3⟩ := at_T36 (Kd.V_reads' HO_0.out).2.2 0 p134 q134
            obtain rfl : ad121 = ad134 := (by injection e134)
            have qi134 : (0 < x0_1.length) = True := eq_true (by omega)
            (try rw [show ((0 : Int)).toNat = 0 from rfl] at hx134_0)
            (try rw [show 0 * 4 = 0 from rfl] at hx134_0)
            (try rw [Addr.add_zero'] at hx134_0)
            (try rw [show ((0 : Int)).toNat = 0 from rfl] at hx134_1)
            (try rw [show 0 * 4 = 0 from rfl] at hx134_1)
            (try rw [Addr.add_zero'] at hx134_1)
            (try rw [show ((0 : Int)).toNat = 0 from rfl] at hx134_2)
            (try rw [show 0 * 4 = 0 from rfl] at hx134_2)
            (try rw [Addr.add_zero'] at hx134_2)
            (try rw [show ((0 : Int)).toNat = 0 from rfl] at hx134_3)
            (try rw [show 0 * 4 = 0 from rfl] at hx134_3)
            (try rw [Addr.add_zero'] at hx134_3)
            replace p134 := eq_true p134
            replace q134 := eq_true q134
            refine start_ (n := 9) (S := fun w' => w'.cell? ad122 = some (.string ((rd_T36 x1_1 0).f0)) ∧ w'.cell? ⟨ad122.block, ad122.off + 1, none⟩ = some (.int .i64 ((rd_T36 x1_1 0).f1)) ∧ w'.cell? ⟨ad122.block, ad122.off + 2, none⟩ = some (.bool ((rd_T36 x1_1 0).f2)) ∧ w'.cell? ⟨ad122.block, ad122.off + 3, none⟩ = some (.string ((rd_T36 x1_1 0).f3)) ∧ w'.cell? ad121 = some (.string ((rd_T36 x0_1 0).f0)) ∧ w'.cell? ⟨ad121.block, ad121.off + 1, none⟩ = some (.int .i64 ((rd_T36 x0_1 0).f1)) ∧ w'.cell? ⟨ad121.block, ad121.off + 2, none⟩ = some (.bool ((rd_T36 x0_1 0).f2)) ∧ w'.cell? ⟨ad121.block, ad121.off + 3, none⟩ = some (.string ((rd_T36 x0_1 0).f3))) (ds := []) #[ff, ff, ff, ff, ff, ff, ff, ff, ff] (by kernel_rfl) rfl rfl ⟨hx133_0, hx133_1, hx133_2, hx133_3, hx134_0, hx134_1, hx134_2, hx134_3⟩ (fun hHeld => ?_); refine with_tabW api_Entry_36.tab6 api_Entry_36.bits6 (fun HT_ HW_ => ?_)
            generalize w30.drew = w31 at HO_0 HO_1 HO_7 HB hx133_0 hx133_1 hx133_2 hx133_3 hx134_0 hx134_1 hx134_2 hx134_3 hHeld ⊢
            refine pq_ (i := 0) (N := some 36) HT_ #[tt, ff, ff, ff, ff, ff, ff, ff, ff] ?_
            refine pq_ (i := 1) (N := some 37) HT_ #[tt, tt, ff, ff, ff, ff, ff, ff, ff] ?_
            refine pq_ (i := 2) (N := some 38) HT_ #[tt, tt, tt, ff, ff, ff, ff, ff, ff] ?_
            refine pq_ (i := 4) (N := some 40) HT_ #[tt, tt, tt, ff, tt, ff, ff, ff, ff] ?_
            refine pq_ (i := 5) (N := some 41) HT_ #[tt, tt, tt, ff, tt, tt, ff, ff, ff] ?_
            refine take_ (i := 3) (N := some 39) (v := ?_) (a' := ?_) #[tt, tt, tt, tt, tt, tt, ff, ff, ff] rfl rfl (take_ofW HT_.out HW_.out (by kernel_rfl)) (fun _ _ _ h => h) (Or.inl ⟨by rfl, ?_⟩) hHeld ?_ ?_
            rotate_left
            ·rintro w' ⟨s0, s1, s2, s3, s4, s5, s6, s7⟩
             go_simp
             with_reducible rfl
            rotate_left
            ·simp only [Act.put, List.setIfInBounds_toArray, List.set_cons_zero, List.set_cons_succ, i64_w, i32_w]
             rfl
            refine take_ (i := 6) (N := some 42) (v := ?_) (a' := ?_) #[tt, tt, tt, tt, tt, tt, tt, ff, ff] rfl rfl (take_ofW HT_.out HW_.out (by kernel_rfl)) (fun _ _ _ h => h) (Or.inl ⟨by rfl, ?_⟩) hHeld ?_ ?_
            rotate_left
            ·rintro w' ⟨s0, s1, s2, s3, s4, s5, s6, s7⟩
             go_simp
             with_reducible rfl
            rotate_left
            ·simp only [Act.put, List.setIfInBounds_toArray, List.set_cons_zero, List.set_cons_succ, i64_w, i32_w]
             rfl
            refine one_ (i := 7) (N := some 43) #[tt, tt, tt, tt, tt, tt, tt, tt, ff] rfl rfl (one_of HT_.out (by kernel_rfl)) (by decide) (fun K hK => ?_)
            (first | refine goes_ Try.func26 (by kernel_rfl) rfl #[.agg #[.string ((rd_T36 x1_1 0).f0), .int .i64 ((rd_T36 x1_1 0).f1), .bool ((rd_T36 x1_1 0).f2), .string ((rd_T36 x1_1 0).f3)], .agg #[.string ((rd_T36 x0_1 0).f0), .int .i64 ((rd_T36 x0_1 0).f1), .bool ((rd_T36 x0_1 0).f2), .string ((rd_T36 x0_1 0).f3)]] (by rfl) rfl rfl (by (try simp only [List.map_toArray, List.map_cons, List.map_nil]); first | done | rfl | (simp only [List.length_drop, List.length_take]; rfl)) ?_ | refine goesV_ Try.func26 (by kernel_rfl) rfl #[.agg #[.string ((rd_T36 x1_1 0).f0), .int .i64 ((rd_T36 x1_1 0).f1), .bool ((rd_T36 x1_1 0).f2), .string ((rd_T36 x1_1 0).f3)], .agg #[.string ((rd_T36 x0_1 0).f0), .int .i64 ((rd_T36 x0_1 0).f1), .bool ((rd_T36 x0_1 0).f2), .string ((rd_T36 x0_1 0).f3)]] (by rfl) rfl rfl rfl (by (try simp only [List.map_toArray, List.map_cons, List.map_nil]); first | done | rfl | (simp only [List.length_drop, List.length_take]; rfl)) ?_)
            with_reducible refine (table_Less.calls kj3 ((rd_T36 x1_1 0).f0) ((rd_T36 x1_1 0).f1) ((rd_T36 x1_1 0).f2) ((rd_T36 x1_1 0).f3) ((rd_T36 x0_1 0).f0) ((rd_T36 x0_1 0).f1) ((rd_T36 x0_1 0).f2) ((rd_T36 x0_1 0).f3) true _ A23.out).mono ?_
            rintro e w32 ⟨rfl, hb⟩
            have HS0_ := (hb.cell (World.block_lt_of_cell? _ _ (hHeld.1))).trans (hHeld.1)
            have HS1_ := (hb.cell (World.block_lt_of_cell? _ _ (hHeld.2.1))).trans (hHeld.2.1)
            have HS2_ := (hb.cell (World.block_lt_of_cell? _ _ (hHeld.2.2.1))).trans (hHeld.2.2.1)
            have HS3_ := (hb.cell (World.block_lt_of_cell? _ _ (hHeld.2.2.2.1))).trans (hHeld.2.2.2.1)
            have HS4_ := (hb.cell (World.block_lt_of_cell? _ _ (hHeld.2.2.2.2.1))).trans (hHeld.2.2.2.2.1)
            have HS5_ := (hb.cell (World.block_lt_of_cell? _ _ (hHeld.2.2.2.2.2.1))).trans (hHeld.2.2.2.2.2.1)
            have HS6_ := (hb.cell (World.block_lt_of_cell? _ _ (hHeld.2.2.2.2.2.2.1))).trans (hHeld.2.2.2.2.2.2.1)
            have HS7_ := (hb.cell (World.block_lt_of_cell? _ _ (hHeld.2.2.2.2.2.2.2))).trans (hHeld.2.2.2.2.2.2.2)
            refine ⟨_, rfl, ?_⟩
            have n0_ := Aside0.mk (Kd.V_below HO_0.out hb)
            have n1_ := Aside0.mk (Kd.V_below HO_1.out hb)
            have n2_ := Aside0.mk (Kd.R_below HO_7.out hb)
            have n3_ := Aside0.mk (below_step HB.out hb)
            clear HO_0
            clear HO_1
            clear HO_7
            clear HB
            have HO_0 := n0_
            have HO_1 := n1_
            have HO_7 := n2_
            have HB := n3_
            clear n0_ n1_ n2_ n3_
            (try clear hb)
            (try clear hb2)
            (try clear hk)
            (try clear hi)
            refine hK.out _ _ ⟨HS0_, HS1_, HS2_, HS3_, HS4_, HS5_, HS6_, HS7_⟩ (fun hHeld => ?_)
            clear hK K
            refine norm_ (a' := ?_) ?_ ?_
            rotate_left
            ·show Act.put _ (some 43) _ = _
             simp only [Act.put, List.setIfInBounds_toArray, List.set_cons_zero, List.set_cons_succ, i64_w, i32_w]
             rfl
            refine pq_ (i := 8) (N := some 35) HT_ #[tt, tt, tt, tt, tt, tt, tt, tt, tt] ?_
            refine done_ (done_of HT_.out (by kernel_rfl)) ?_
            try go_wp2
            have n0_ := Aside0.mk (Kd.V_drew HO_0.out)
            have n1_ := Aside0.mk (Kd.V_drew HO_1.out)
            have n2_ := Aside0.mk (Kd.R_drew HO_7.out)
            have n3_ := Aside0.mk (below_drew1 HB.out)
            clear HO_0
            clear HO_1
            clear HO_7
            clear HB
            have HO_0 := n0_
            have HO_1 := n1_
            have HO_7 := n2_
            have HB := n3_
            clear n0_ n1_ n2_ n3_
            have p136 : 0 ≤ (0 : Int) := (by omega)
            have q136 : 0 < (x1_1.length : Int) := of_decide_eq_true (by first | (with_reducible assumption) | assumption)
            obtain ⟨ad136, e136, hx136_0, hx136_1, hx136_2, hx136_3⟩ := at_T36 (Kd.V_reads' HO_1.out).2.2 0 p136 q136
            obtain rfl : ad122 = ad136 := (by injection e136)
            have qi136 : (0 < x1_1.length) = True := eq_true (by omega)
            (try rw [show ((0 : Int)).toNat = 0 from rfl] at hx136_0)
            (try rw [show 0 * 4 = 0 from rfl] at hx136_0)
            (try rw [Addr.add_zero'] at hx136_0)
            (try rw [show ((0 : Int)).toNat = 0 from rfl] at hx136_1)
            (try rw [show 0 * 4 = 0 from rfl] at hx136_1)
            (try rw [Addr.add_zero'] at hx136_1)
            (try rw [show ((0 : Int)).toNat = 0 from rfl] at hx136_2)
            (try rw [show 0 * 4 = 0 from rfl] at hx136_2)
            (try rw [Addr.add_zero'] at hx136_2)
            (try rw [show ((0 : Int)).toNat = 0 from rfl] at hx136_3)
            (try rw [show 0 * 4 = 0 from rfl] at hx136_3)
            (try rw [Addr.add_zero'] at hx136_3)
            replace p136 := eq_true p136
            replace q136 := eq_true q136
            have q34 : (1 : Int) ≤ ((x1_1.length : Int) : Int) := of_decide_eq_true (by first | (with_reducible assumption) | assumption)
            obtain ⟨i034, hi034, _, hsz34, _⟩ := info_parts info36
            have hroom34 : x1_1.length ≤ co29 := (Kd.V_reads' HO_1.out).2.1
            have hC34 : Kd.F k36 _ _ (some ad122) x1_1.length x1_1 := (Kd.V_at (base := w.heap.size) HO_1.out).2.2
            have hcut34 := cut_from (P := Try.prog) 27 36 .i64 Try.underlying27 hi034 4 hsz34 (some ad122) x1_1.length co29 1 (by omega) q34
            have hr34 := Kd.F_cut (m := (1 : Int).toNat) (c := co29) hC34 (by omega) hroom34
            obtain ⟨A34, hA34⟩ : ∃ A1, A1 = (if co29 = (1 : Int).toNat then (some ad122) else ((some ad122) : Option Addr).map (·.add ((1 : Int).toNat * 4))) := ⟨_, rfl⟩
            obtain ⟨c34, hc34⟩ : ∃ c1, c1 = co29 - (1 : Int).toNat := ⟨_, rfl⟩
            have hy34 : y140.length = x1_1.length - (1 : Int).toNat := (by rw [Ny140.out, List.length_drop] <;> omega)
            rw [show (x1_1).drop (1 : Int).toNat = y140 from Ny140.out.symm] at hr34
            replace hr34 : Kd.F k36 _ _ A34 y140.length y140 := (by rw [hA34]; exact hr34)
            rw [← hy34, ← hA34, ← hc34] at hcut34
            have HO144 := Aside0.mk (show Kd.V k36 36 _ w.heap.size _ (.slice A34 y140.length c34) y140 from Kd.V_mk (by rw [hy34, hc34]; exact Nat.sub_le_sub_right hroom34 _) hr34)
            have HC144 := Aside0.mk (show y140.length ≤ c34 from by rw [hy34, hc34]; exact Nat.sub_le_sub_right hroom34 _)
            clear hr34 hC34 hroom34 hi034 hsz34 hc34
            have KY34 := Aside0.mk hy34
            have KA34 := Aside0.mk hA34
            clear hy34 hA34
            replace q34 := eq_true q34
            refine start_ (n := 10) (S := fun w' => w'.cell? ad122 = some (.string ((rd_T36 x1_1 0).f0)) ∧ w'.cell? ⟨ad122.block, ad122.off + 1, none⟩ = some (.int .i64 ((rd_T36 x1_1 0).f1)) ∧ w'.cell? ⟨ad122.block, ad122.off + 2, none⟩ = some (.bool ((rd_T36 x1_1 0).f2)) ∧ w'.cell? ⟨ad122.block, ad122.off + 3, none⟩ = some (.string ((rd_T36 x1_1 0).f3))) (ds := [4, 5]) #[ff, ff, ff, ff, ff, ff, ff, ff, ff, ff] (by kernel_rfl) rfl rfl ⟨hx136_0, hx136_1, hx136_2, hx136_3⟩ (fun hHeld => ?_); refine with_tabW api_Entry_36.tab7 api_Entry_36.bits7 (fun HT_ HW_ => ?_)
            generalize w32.drew = w33 at HO_0 HO_1 HO_7 HB HO144 hx136_0 hx136_1 hx136_2 hx136_3 hHeld ⊢
            refine pq_ (i := 0) (N := some 44) HT_ #[tt, ff, ff, ff, ff, ff, ff, ff, ff, ff] ?_
            refine pq_ (i := 1) (N := some 45) HT_ #[tt, tt, ff, ff, ff, ff, ff, ff, ff, ff] ?_
            refine pq_ (i := 2) (N := some 46) HT_ #[tt, tt, tt, ff, ff, ff, ff, ff, ff, ff] ?_
            refine pq_ (i := 6) (N := some 50) HT_ #[tt, tt, tt, ff, ff, ff, tt, ff, ff, ff] ?_
            refine pq_ (i := 7) (N := some 51) HT_ #[tt, tt, tt, ff, ff, ff, tt, tt, ff, ff] ?_
            refine take_ (i := 3) (N := some 47) (v := ?_) (a' := ?_) #[tt, tt, tt, tt, ff, ff, tt, tt, ff, ff] rfl rfl (take_ofW HT_.out HW_.out (by kernel_rfl)) (fun _ _ _ h => h) (Or.inl ⟨by rfl, ?_⟩) hHeld ?_ ?_
            rotate_left
            ·rintro w' ⟨s0, s1, s2, s3⟩
             go_simp
             with_reducible rfl
            rotate_left
            ·simp only [Act.put, List.setIfInBounds_toArray, List.set_cons_zero, List.set_cons_succ, i64_w, i32_w]
             rfl
            refine last_ (i := 4) (N := some 48) #[tt, tt, tt, tt, tt, ff, tt, tt, ff, ff] rfl rfl (one_of HT_.out (by kernel_rfl)) (by decide) (fun K hK => ?_)
            refine value_ (w1 := ?_) (v := ?_) (by rfl) rfl ?_ ?_
            rotate_left 2
            ·go_simp
             constructor
             ·rfl
             ·rfl
            refine hK.out _ _ ?_
            clear hK K
            refine norm_ (a' := ?_) ?_ ?_
            rotate_left
            ·show Act.put _ (some 48) _ = _
             simp only [Act.put, List.setIfInBounds_toArray, List.set_cons_zero, List.set_cons_succ, i64_w, i32_w]
             rfl
            refine last_ (i := 5) (N := some 49) #[tt, tt, tt, tt, tt, tt, tt, tt, ff, ff] rfl rfl (one_of HT_.out (by kernel_rfl)) (by decide) (fun K hK => ?_)
            refine Kd.R_append_step k36 (w0 := w) w.heap.size (by rfl) (.tmp 44) (.tmp 48) 27 36 (.agg #[(.string ⟨#[]⟩), (.int .i64 0), (.bool false), (.string ⟨#[]⟩)]) 48 rfl Try.underlying27 info36 rfl (by decide) (by omega) u7 x7_1 (⟨(rd_T36 x1_1 0).f0, (rd_T36 x1_1 0).f1, (rd_T36 x1_1 0).f2, (rd_T36 x1_1 0).f3⟩ : S36) [.string ((rd_T36 x1_1 0).f0), .int .i64 ((rd_T36 x1_1 0).f1), .bool ((rd_T36 x1_1 0).f2), .string ((rd_T36 x1_1 0).f3)] (fun k_ => (w.heap.size ≤ k_)) (fun _ => False) rfl rfl ?aP (fun _ hk => hk.elim) ?aF ?aO ?aB ?aS ?aL ?_
            (case aP => exact k36_mkM _ _ _ (⟨(rd_T36 x1_1 0).f0, (rd_T36 x1_1 0).f1, (rd_T36 x1_1 0).f2, (rd_T36 x1_1 0).f3⟩ : S36))
            (case aB => exact HB.out)
            (case aF => exact (fun k_ hk => (Nat.le_trans (below_size HB.out) hk)))
            (case aO => exact HO_7.out)
            (case aS => exact (below_size HB.out))
            (case aL => have := LMc25.out; omega)
            intro v138 w35 ho hb hg hat
            rw [← Ny137.out] at ho
            have n0_ := Aside0.mk (Kd.V_afterv (ok := (fun k_ => ((P0_ k_ ∨ P1_ k_) ∨ w.heap.size ≤ k_))) HO_0.out hg hat)
            have n1_ := Aside0.mk (Kd.V_afterv (ok := (fun k_ => ((P0_ k_ ∨ P1_ k_) ∨ w.heap.size ≤ k_))) HO_1.out hg hat)
            have n2_ := Aside0.mk (Kd.V_afterv (ok := (fun k_ => ((P0_ k_ ∨ P1_ k_) ∨ w.heap.size ≤ k_))) HO144.out hg hat)
            have n3_ := Aside0.mk (hb)
            have n4_ := Aside0.mk (ho)
            clear HO_0
            clear HO_1
            clear HO144
            clear HB
            clear HO_7
            have HO_0 := n0_
            have HO_1 := n1_
            have HO144 := n2_
            have HB := n3_
            have HO139 := n4_
            clear n0_ n1_ n2_ n3_ n4_
            clear ho hb hg hat
            refine hK.out _ _ ?_
            clear hK K
            refine norm_ (a' := ?_) ?_ ?_
            rotate_left
            ·show Act.put _ (some 49) _ = _
             simp only [Act.put, List.setIfInBounds_toArray, List.set_cons_zero, List.set_cons_succ, i64_w, i32_w]
             rfl
            refine pq_ (i := 8) (N := some 7) HT_ #[tt, tt, tt, tt, tt, tt, tt, tt, tt, ff] ?_
            refine pq_ (i := 9) (N := some 1) HT_ #[tt, tt, tt, tt, tt, tt, tt, tt, tt, tt] ?_
            refine done_ (done_of HT_.out (by kernel_rfl)) ?_
            try go_wp2
            go_roundg kj3
            case measure => have := HK1.out; have := HJ3.out; omega
            case rel => exact ⟨(x0_1), (y140), (y137), H', ⟨by have := HK1.out; have := HJ3.out; omega⟩, ⟨by (with_reducible repeat (first | apply Kd.V_alloc | apply Kd.V_drewN | apply Kd.V_drew)); exact HO_0.out⟩, ⟨by (with_reducible repeat (first | apply Kd.V_alloc | apply Kd.V_drewN | apply Kd.V_drew)); exact HO144.out⟩, ⟨by (with_reducible repeat (first | apply Kd.R_alloc | apply Kd.R_drewN | apply Kd.R_drew)); exact HO139.out⟩, ⟨by repeat (first | (with_reducible first | exact HB.out | apply below_alloc | apply pw_below_drewN | apply below_drew1) | exact HB.out)⟩⟩
           ·rw [if_neg c26] at H
            exact absurd H (by simp)
          ·rw [if_neg c25] at H
           exact absurd H (by simp)
         ·replace c24 := Bool.eq_false_iff.mpr c24
          subst c24
          have H1 : (if 1 ≤ (x1_1.length : Int) then (api_Entry_36.l0 kj3 x0_1 (x1_1.drop 1) x7_1) else (none)) = some r := by rw [if_neg (show ¬ (false = true) by decide)] at H; exact H
          clear H
          have H := H1
          clear H1
          by_cases c36 : 1 ≤ (x1_1.length : Int)
          ·rw [if_pos c36] at H
           have c36b0 := eq_true c36
           have c36b1 : decide (1 ≤ (x1_1.length : Int)) = true := decide_eq_true c36
           clear c36
           obtain ⟨y145, hy145⟩ : ∃ y_ : List (S36), y_ = (x1_1.drop 1) := ⟨_, rfl⟩
           replace H : (api_Entry_36.l0 kj3 x0_1 y145 x7_1) = some r := by first | (rw [hy145]; with_reducible exact H) | (have H2_ := (Option.bind_some _ _).symm.trans H; rw [hy145]; with_reducible exact H2_) | (have H2_ := (Option.bind_some _ _).symm.trans H; with_reducible exact H2_) | with_reducible exact H | (rw [hy145]; exact H) | exact H
           have Ny145 := Aside0.mk hy145
           clear hy145
           have H' := Aside0.mk H
           clear H
           try go_wp2
           have n0_ := Aside0.mk (Kd.V_drew HO_0.out)
           have n1_ := Aside0.mk (Kd.V_drew HO_1.out)
           have n2_ := Aside0.mk (Kd.R_drew HO_7.out)
           have n3_ := Aside0.mk (below_drew1 HB.out)
           clear HO_0
           clear HO_1
           clear HO_7
           clear HB
           have HO_0 := n0_
           have HO_1 := n1_
           have HO_7 := n2_
           have HB := n3_
           clear n0_ n1_ n2_ n3_
           obtain ⟨Ao38, co38, eo38⟩ := Kd.V_slice HO_0.out
           (first | subst eo38 | (injection eo38 with f1_ f2_ f3_; have f4_ := f1_.symm; have f5_ := f3_.symm; clear f1_ f2_ f3_; subst f4_; subst f5_))
           have p121 : 0 ≤ (0 : Int) := (by omega)
           have q121 : 0 < (x0_1.length : Int) := of_decide_eq_true (by first | (with_reducible assumption) | assumption)
           obtain ⟨ad121, e121, hx121_0, hx121_1, hx121_2, hx121_3⟩ := at_T36 (Kd.V_reads' HO_0.out).2.2 0 p121 q121
           cases e121
           have qi121 : (0 < x0_1.length) = True := eq_true (by omega)
           (try rw [show ((0 : Int)).toNat = 0 from rfl] at hx121_0)
           (try rw [show 0 * 4 = 0 from rfl] at hx121_0)
           (try rw [Addr.add_zero'] at hx121_0)
           (try rw [show ((0 : Int)).toNat = 0 from rfl] at hx121_1)
           (try rw [show 0 * 4 = 0 from rfl] at hx121_1)
           (try rw [Addr.add_zero'] at hx121_1)
           (try rw [show ((0 : Int)).toNat = 0 from rfl] at hx121_2)
           (try rw [show 0 * 4 = 0 from rfl] at hx121_2)
           (try rw [Addr.add_zero'] at hx121_2)
           (try rw [show ((0 : Int)).toNat = 0 from rfl] at hx121_3)
           (try rw [show 0 * 4 = 0 from rfl] at hx121_3)
           (try rw [Addr.add_zero'] at hx121_3)
           replace p121 := eq_true p121
           replace q121 := eq_true q121
           obtain ⟨Ao39, co39, eo39⟩ := Kd.V_slice HO_1.out
           (first | subst eo39 | (injection eo39 with f1_ f2_ f3_; have f4_ := f1_.symm; have f5_ := f3_.symm; clear f1_ f2_ f3_; subst f4_; subst f5_))
           have p122 : 0 ≤ (0 : Int) := (by omega)
           have q122 : 0 < (x1_1.length : Int) := of_decide_eq_true (by first | (with_reducible assumption) | assumption)
           obtain ⟨ad122, e122, hx122_0, hx122_1, hx122_2, hx122_3⟩ := at_T36 (Kd.V_reads' HO_1.out).2.2 0 p122 q122
           cases e122
           have qi122 : (0 < x1_1.length) = True := eq_true (by omega)
           (try rw [show ((0 : Int)).toNat = 0 from rfl] at hx122_0)
           (try rw [show 0 * 4 = 0 from rfl] at hx122_0)
           (try rw [Addr.add_zero'] at hx122_0)
           (try rw [show ((0 : Int)).toNat = 0 from rfl] at hx122_1)
           (try rw [show 0 * 4 = 0 from rfl] at hx122_1)
           (try rw [Addr.add_zero'] at hx122_1)
           (try rw [show ((0 : Int)).toNat = 0 from rfl] at hx122_2)
           (try rw [show 0 * 4 = 0 from rfl] at hx122_2)
           (try rw [Addr.add_zero'] at hx122_2)
           (try rw [show ((0 : Int)).toNat = 0 from rfl] at hx122_3)
           (try rw [show 0 * 4 = 0 from rfl] at hx122_3)
           (try rw [Addr.add_zero'] at hx122_3)
           replace p122 := eq_true p122
           replace q122 := eq_true q122
           refine start_ (n := 9) (S := fun w' => w'.cell? ad121 = some (.string ((rd_T36 x0_1 0).f0)) ∧ w'.cell? ⟨ad121.block, ad121.off + 1, none⟩ = some (.int .i64 ((rd_T36 x0_1 0).f1)) ∧ w'.cell? ⟨ad121.block, ad121.off + 2, none⟩ = some (.bool ((rd_T36 x0_1 0).f2)) ∧ w'.cell? ⟨ad121.block, ad121.off + 3, none⟩ = some (.string ((rd_T36 x0_1 0).f3)) ∧ w'.cell? ad122 = some (.string ((rd_T36 x1_1 0).f0)) ∧ w'.cell? ⟨ad122.block, ad122.off + 1, none⟩ = some (.int .i64 ((rd_T36 x1_1 0).f1)) ∧ w'.cell? ⟨ad122.block, ad122.off + 2, none⟩ = some (.bool ((rd_T36 x1_1 0).f2)) ∧ w'.cell? ⟨ad122.block, ad122.off + 3, none⟩ = some (.string ((rd_T36 x1_1 0).f3))) (ds := []) #[ff, ff, ff, ff, ff, ff, ff, ff, ff] (by kernel_rfl) rfl rfl ⟨hx121_0, hx121_1, hx121_2, hx121_3, hx122_0, hx122_1, hx122_2, hx122_3⟩ (fun hHeld => ?_); refine with_tabW api_Entry_36.tab4 api_Entry_36.bits4 (fun HT_ HW_ => ?_)
           generalize wc.drew = w37 at HO_0 HO_1 HO_7 HB hx121_0 hx121_1 hx121_2 hx121_3 hx122_0 hx122_1 hx122_2 hx122_3 hHeld ⊢
           refine pq_ (i := 0) (N := some 19) HT_ #[tt, ff, ff, ff, ff, ff, ff, ff, ff] ?_
           refine pq_ (i := 1) (N := some 20) HT_ #[tt, tt, ff, ff, ff, ff, ff, ff, ff] ?_
           refine pq_ (i := 2) (N := some 21) HT_ #[tt, tt, tt, ff, ff, ff, ff, ff, ff] ?_
           refine pq_ (i := 4) (N := some 23) HT_ #[tt, tt, tt, ff, tt, ff, ff, ff, ff] ?_
           refine pq_ (i := 5) (N := some 24) HT_ #[tt, tt, tt, ff, tt, tt, ff, ff, ff] ?_
           refine take_ (i := 3) (N := some 22) (v := ?_) (a' := ?_) #[tt, tt, tt, tt, tt, tt, ff, ff, ff] rfl rfl (take_ofW HT_.out HW_.out (by kernel_rfl)) (fun _ _ _ h => h) (Or.inl ⟨by rfl, ?_⟩) hHeld ?_ ?_
           rotate_left
           ·rintro w' ⟨s0, s1, s2, s3, s4, s5, s6, s7⟩
            go_simp
            with_reducible rfl
           rotate_left
           ·simp only [Act.put, List.setIfInBounds_toArray, List.set_cons_zero, List.set_cons_succ, i64_w, i32_w]
            rfl
           refine take_ (i := 6) (N := some 25) (v := ?_) (a' := ?_) #[tt, tt, tt, tt, tt, tt, tt, ff, ff] rfl rfl (take_ofW HT_.out HW_.out (by kernel_rfl)) (fun _ _ _ h => h) (Or.inl ⟨by rfl, ?_⟩) hHeld ?_ ?_
           rotate_left
           ·rintro w' ⟨s0, s1, s2, s3, s4, s5, s6, s7⟩
            go_simp
            with_reducible rfl
           rotate_left
           ·simp only [Act.put, List.setIfInBounds_toArray, List.set_cons_zero, List.set_cons_succ, i64_w, i32_w]
            rfl
           refine one_ (i := 7) (N := some 26) #[tt, tt, tt, tt, tt, tt, tt, tt, ff] rfl rfl (one_of HT_.out (by kernel_rfl)) (by decide) (fun K hK => ?_)
           (first | refine goes_ Try.func26 (by kernel_rfl) rfl #[.agg #[.string ((rd_T36 x0_1 0).f0), .int .i64 ((rd_T36 x0_1 0).f1), .bool ((rd_T36 x0_1 0).f2), .string ((rd_T36 x0_1 0).f3)], .agg #[.string ((rd_T36 x1_1 0).f0), .int .i64 ((rd_T36 x1_1 0).f1), .bool ((rd_T36 x1_1 0).f2), .string ((rd_T36 x1_1 0).f3)]] (by rfl) rfl rfl (by (try simp only [List.map_toArray, List.map_cons, List.map_nil]); first | done | rfl | (simp only [List.length_drop, List.length_take]; rfl)) ?_ | refine goesV_ Try.func26 (by kernel_rfl) rfl #[.agg #[.string ((rd_T36 x0_1 0).f0), .int .i64 ((rd_T36 x0_1 0).f1), .bool ((rd_T36 x0_1 0).f2), .string ((rd_T36 x0_1 0).f3)], .agg #[.string ((rd_T36 x1_1 0).f0), .int .i64 ((rd_T36 x1_1 0).f1), .bool ((rd_T36 x1_1 0).f2), .string ((rd_T36 x1_1 0).f3)]] (by rfl) rfl rfl rfl (by (try simp only [List.map_toArray, List.map_cons, List.map_nil]); first | done | rfl | (simp only [List.length_drop, List.length_take]; rfl)) ?_)
           with_reducible refine (table_Less.calls kj3 ((rd_T36 x0_1 0).f0) ((rd_T36 x0_1 0).f1) ((rd_T36 x0_1 0).f2) ((rd_T36 x0_1 0).f3) ((rd_T36 x1_1 0).f0) ((rd_T36 x1_1 0).f1) ((rd_T36 x1_1 0).f2) ((rd_T36 x1_1 0).f3) false _ A12.out).mono ?_
           rintro e w40 ⟨rfl, hb⟩
           have HS0_ := (hb.cell (World.block_lt_of_cell? _ _ (hHeld.1))).trans (hHeld.1)
           have HS1_ := (hb.cell (World.block_lt_of_cell? _ _ (hHeld.2.1))).trans (hHeld.2.1)
           have HS2_ := (hb.cell (World.block_lt_of_cell? _ _ (hHeld.2.2.1))).trans (hHeld.2.2.1)
           have HS3_ := (hb.cell (World.block_lt_of_cell? _ _ (hHeld.2.2.2.1))).trans (hHeld.2.2.2.1)
           have HS4_ := (hb.cell (World.block_lt_of_cell? _ _ (hHeld.2.2.2.2.1))).trans (hHeld.2.2.2.2.1)
           have HS5_ := (hb.cell (World.block_lt_of_cell? _ _ (hHeld.2.2.2.2.2.1))).trans (hHeld.2.2.2.2.2.1)
           have HS6_ := (hb.cell (World.block_lt_of_cell? _ _ (hHeld.2.2.2.2.2.2.1))).trans (hHeld.2.2.2.2.2.2.1)
           have HS7_ := (hb.cell (World.block_lt_of_cell? _ _ (hHeld.2.2.2.2.2.2.2))).trans (hHeld.2.2.2.2.2.2.2)
           refine ⟨_, rfl, ?_⟩
           have n0_ := Aside0.mk (Kd.V_below HO_0.out hb)
           have n1_ := Aside0.mk (Kd.V_below HO_1.out hb)
           have n2_ := Aside0.mk (Kd.R_below HO_7.out hb)
           have n3_ := Aside0.mk (below_step HB.out hb)
           clear HO_0
           clear HO_1
           clear HO_7
           clear HB
           have HO_0 := n0_
           have HO_1 := n1_
           have HO_7 := n2_
           have HB := n3_
           clear n0_ n1_ n2_ n3_
           (try clear hb)
           (try clear hb2)
           (try clear hk)
           (try clear hi)
           refine hK.out _ _ ⟨HS0_, HS1_, HS2_, HS3_, HS4_, HS5_, HS6_, HS7_⟩ (fun hHeld => ?_)
           clear hK K
           refine norm_ (a' := ?_) ?_ ?_
           rotate_left
           ·show Act.put _ (some 26) _ = _
            simp only [Act.put, List.setIfInBounds_toArray, List.set_cons_zero, List.set_cons_succ, i64_w, i32_w]
            rfl
           refine pq_ (i := 8) (N := some 18) HT_ #[tt, tt, tt, tt, tt, tt, tt, tt, tt] ?_
           refine done_ (done_of HT_.out (by kernel_rfl)) ?_
           try go_wp2
           have n0_ := Aside0.mk (Kd.V_drew HO_0.out)
           have n1_ := Aside0.mk (Kd.V_drew HO_1.out)
           have n2_ := Aside0.mk (Kd.R_drew HO_7.out)
           have n3_ := Aside0.mk (below_drew1 HB.out)
           clear HO_0
           clear HO_1
           clear HO_7
           clear HB
           have HO_0 := n0_
           have HO_1 := n1_
           have HO_7 := n2_
           have HB := n3_
           clear n0_ n1_ n2_ n3_
           have p133 : 0 ≤ (0 : Int) := (by omega)
           have q133 : 0 < (x1_1.length : Int) := of_decide_eq_true (by first | (with_reducible assumption) | assumption)
           obtain ⟨ad133, e133, hx133_0, hx133_1, hx133_2, hx133_3⟩ := at_T36 (Kd.V_reads' HO_1.out).2.2 0 p133 q133
           obtain rfl : ad122 = ad133 := (by injection e133)
           have qi133 : (0 < x1_1.length) = True := eq_true (by omega)
           (try rw [show ((0 : Int)).toNat = 0 from rfl] at hx133_0)
           (try rw [show 0 * 4 = 0 from rfl] at hx133_0)
           (try rw [Addr.add_zero'] at hx133_0)
           (try rw [show ((0 : Int)).toNat = 0 from rfl] at hx133_1)
           (try rw [show 0 * 4 = 0 from rfl] at hx133_1)
           (try rw [Addr.add_zero'] at hx133_1)
           (try rw [show ((0 : Int)).toNat = 0 from rfl] at hx133_2)
           (try rw [show 0 * 4 = 0 from rfl] at hx133_2)
           (try rw [Addr.add_zero'] at hx133_2)
           (try rw [show ((0 : Int)).toNat = 0 from rfl] at hx133_3)
           (try rw [show 0 * 4 = 0 from rfl] at hx133_3)
           (try rw [Addr.add_zero'] at hx133_3)
           replace p133 := eq_true p133
           replace q133 := eq_true q133
           have p134 : 0 ≤ (0 : Int) := (by omega)
           have q134 : 0 < (x0_1.length : Int) := of_decide_eq_true (by first | (with_reducible assumption) | assumption)
           obtain ⟨ad134, e134, hx134_0, hx134_1, hx134_2, hx134_3⟩ := at_T36 (Kd.V_reads' HO_0.out).2.2 0 p134 q134
           obtain rfl : ad121 = ad134 := (by injection e134)
           have qi134 : (0 < x0_1.length) = True := eq_true (by omega)
           (try rw [show ((0 : Int)).toNat = 0 from rfl] at hx134_0)
           (try rw [show 0 * 4 = 0 from rfl] at hx134_0)
           (try rw [Addr.add_zero'] at hx134_0)
           (try rw [show ((0 : Int)).toNat = 0 from rfl] at hx134_1)
           (try rw [show 0 * 4 = 0 from rfl] at hx134_1)
           (try rw [Addr.add_zero'] at hx134_1)
           (try rw [show ((0 : Int)).toNat = 0 from rfl] at hx134_2)
           (try rw [show 0 * 4 = 0 from rfl] at hx134_2)
           (try rw [Addr.add_zero'] at hx134_2)
           (try rw [show ((0 : Int)).toNat = 0 from rfl] at hx134_3)
           (try rw [show 0 * 4 = 0 from rfl] at hx134_3)
           (try rw [Addr.add_zero'] at hx134_3)
           replace p134 := eq_true p134
           replace q134 := eq_true q134
           refine start_ (n := 9) (S := fun w' => w'.cell? ad122 = some (.string ((rd_T36 x1_1 0).f0)) ∧ w'.cell? ⟨ad122.block, ad122.off + 1, none⟩ = some (.int .i64 ((rd_T36 x1_1 0).f1)) ∧ w'.cell? ⟨ad122.block, ad122.off + 2, none⟩ = some (.bool ((rd_T36 x1_1 0).f2)) ∧ w'.cell? ⟨ad122.block, ad122.off + 3, none⟩ = some (.string ((rd_T36 x1_1 0).f3)) ∧ w'.cell? ad121 = some (.string ((rd_T36 x0_1 0).f0)) ∧ w'.cell? ⟨ad121.block, ad121.off + 1, none⟩ = some (.int .i64 ((rd_T36 x0_1 0).f1)) ∧ w'.cell? ⟨ad121.block, ad121.off + 2, none⟩ = some (.bool ((rd_T36 x0_1 0).f2)) ∧ w'.cell? ⟨ad121.block, ad121.off + 3, none⟩ = some (.string ((rd_T36 x0_1 0).f3))) (ds := []) #[ff, ff, ff, ff, ff, ff, ff, ff, ff] (by kernel_rfl) rfl rfl ⟨hx133_0, hx133_1, hx133_2, hx133_3, hx134_0, hx134_1, hx134_2, hx134_3⟩ (fun hHeld => ?_); refine with_tabW api_Entry_36.tab6 api_Entry_36.bits6 (fun HT_ HW_ => ?_)
           generalize w40.drew = w41 at HO_0 HO_1 HO_7 HB hx133_0 hx133_1 hx133_2 hx133_3 hx134_0 hx134_1 hx134_2 hx134_3 hHeld ⊢
           refine pq_ (i := 0) (N := some 36) HT_ #[tt, ff, ff, ff, ff, ff, ff, ff, ff] ?_
           refine pq_ (i := 1) (N := some 37) HT_ #[tt, tt, ff, ff, ff, ff, ff, ff, ff] ?_
           refine pq_ (i := 2) (N := some 38) HT_ #[tt, tt, tt, ff, ff, ff, ff, ff, ff] ?_
           refine pq_ (i := 4) (N := some 40) HT_ #[tt, tt, tt, ff, tt, ff, ff, ff, ff] ?_
           refine pq_ (i := 5) (N := some 41) HT_ #[tt, tt, tt, ff, tt, tt, ff, ff, ff] ?_
           refine take_ (i := 3) (N := some 39) (v := ?_) (a' := ?_) #[tt, tt, tt, tt, tt, tt, ff, ff, ff] rfl rfl (take_ofW HT_.out HW_.out (by kernel_rfl)) (fun _ _ _ h => h) (Or.inl ⟨by rfl, ?_⟩) hHeld ?_ ?_
           rotate_left
           ·rintro w' ⟨s0, s1, s2, s3, s4, s5, s6, s7⟩
            go_simp
            with_reducible rfl
           rotate_left
           ·simp only [Act.put, List.setIfInBounds_toArray, List.set_cons_zero, List.set_cons_succ, i64_w, i32_w]
            rfl
           refine take_ (i := 6) (N := some 42) (v := ?_) (a' := ?_) #[tt, tt, tt, tt, tt, tt, tt, ff, ff] rfl rfl (take_ofW HT_.out HW_.out (by kernel_rfl)) (fun _ _ _ h => h) (Or.inl ⟨by rfl, ?_⟩) hHeld ?_ ?_
           rotate_left
           ·rintro w' ⟨s0, s1, s2, s3, s4, s5, s6, s7⟩
            go_simp
            with_reducible rfl
           rotate_left
           ·simp only [Act.put, List.setIfInBounds_toArray, List.set_cons_zero, List.set_cons_succ, i64_w, i32_w]
            rfl
           refine one_ (i := 7) (N := some 43) #[tt, tt, tt, tt, tt, tt, tt, tt, ff] rfl rfl (one_of HT_.out (by kernel_rfl)) (by decide) (fun K hK => ?_)
           (first | refine goes_ Try.func26 (by kernel_rfl) rfl #[.agg #[.string ((rd_T36 x1_1 0).f0), .int .i64 ((rd_T36 x1_1 0).f1), .bool ((rd_T36 x1_1 0).f2), .string ((rd_T36 x1_1 0).f3)], .agg #[.string ((rd_T36 x0_1 0).f0), .int .i64 ((rd_T36 x0_1 0).f1), .bool ((rd_T36 x0_1 0).f2), .string ((rd_T36 x0_1 0).f3)]] (by rfl) rfl rfl (by (try simp only [List.map_toArray, List.map_cons, List.map_nil]); first | done | rfl | (simp only [List.length_drop, List.length_take]; rfl)) ?_ | refine goesV_ Try.func26 (by kernel_rfl) rfl #[.agg #[.string ((rd_T36 x1_1 0).f0), .int .i64 ((rd_T36 x1_1 0).f1), .bool ((rd_T36 x1_1 0).f2), .string ((rd_T36 x1_1 0).f3)], .agg #[.string ((rd_T36 x0_1 0).f0), .int .i64 ((rd_T36 x0_1 0).f1), .bool ((rd_T36 x0_1 0).f2), .string ((rd_T36 x0_1 0).f3)]] (by rfl) rfl rfl rfl (by (try simp only [List.map_toArray, List.map_cons, List.map_nil]); first | done | rfl | (simp only [List.length_drop, List.length_take]; rfl)) ?_)
           with_reducible refine (table_Less.calls kj3 ((rd_T36 x1_1 0).f0) ((rd_T36 x1_1 0).f1) ((rd_T36 x1_1 0).f2) ((rd_T36 x1_1 0).f3) ((rd_T36 x0_1 0).f0) ((rd_T36 x0_1 0).f1) ((rd_T36 x0_1 0).f2) ((rd_T36 x0_1 0).f3) false _ A23.out).mono ?_
           rintro e w42 ⟨rfl, hb⟩
           have HS0_ := (hb.cell (World.block_lt_of_cell? _ _ (hHeld.1))).trans (hHeld.1)
           have HS1_ := (hb.cell (World.block_lt_of_cell? _ _ (hHeld.2.1))).trans (hHeld.2.1)
           have HS2_ := (hb.cell (World.block_lt_of_cell? _ _ (hHeld.2.2.1))).trans (hHeld.2.2.1)
           have HS3_ := (hb.cell (World.block_lt_of_cell? _ _ (hHeld.2.2.2.1))).trans (hHeld.2.2.2.1)
           have HS4_ := (hb.cell (World.block_lt_of_cell? _ _ (hHeld.2.2.2.2.1))).trans (hHeld.2.2.2.2.1)
           have HS5_ := (hb.cell (World.block_lt_of_cell? _ _ (hHeld.2.2.2.2.2.1))).trans (hHeld.2.2.2.2.2.1)
           have HS6_ := (hb.cell (World.block_lt_of_cell? _ _ (hHeld.2.2.2.2.2.2.1))).trans (hHeld.2.2.2.2.2.2.1)
           have HS7_ := (hb.cell (World.block_lt_of_cell? _ _ (hHeld.2.2.2.2.2.2.2))).trans (hHeld.2.2.2.2.2.2.2)
           refine ⟨_, rfl, ?_⟩
           have n0_ := Aside0.mk (Kd.V_below HO_0.out hb)
           have n1_ := Aside0.mk (Kd.V_below HO_1.out hb)
           have n2_ := Aside0.mk (Kd.R_below HO_7.out hb)
           have n3_ := Aside0.mk (below_step HB.out hb)
           clear HO_0
           clear HO_1
           clear HO_7
           clear HB
           have HO_0 := n0_
           have HO_1 := n1_
           have HO_7 := n2_
           have HB := n3_
           clear n0_ n1_ n2_ n3_
           (try clear hb)
           (try clear hb2)
           (try clear hk)
           (try clear hi)
           refine hK.out _ _ ⟨HS0_, HS1_, HS2_, HS3_, HS4_, HS5_, HS6_, HS7_⟩ (fun hHeld => ?_)
           clear hK K
           refine norm_ (a' := ?_) ?_ ?_
           rotate_left
           ·show Act.put _ (some 43) _ = _
            simp only [Act.put, List.setIfInBounds_toArray, List.set_cons_zero, List.set_cons_succ, i64_w, i32_w]
            rfl
           refine pq_ (i := 8) (N := some 35) HT_ #[tt, tt, tt, tt, tt, tt, tt, tt, tt] ?_
           refine done_ (done_of HT_.out (by kernel_rfl)) ?_
           have q43 : (1 : Int) ≤ ((x1_1.length : Int) : Int) := of_decide_eq_true (by first | (with_reducible assumption) | assumption)
           obtain ⟨i043, hi043, _, hsz43, _⟩ := info_parts info36
           have hroom43 : x1_1.length ≤ co39 := (Kd.V_reads' HO_1.out).2.1
           have hC43 : Kd.F k36 _ _ (some ad122) x1_1.length x1_1 := (Kd.V_at (base := w.heap.size) HO_1.out).2.2
           have hcut43 := cut_from (P := Try.prog) 27 36 .i64 Try.underlying27 hi043 4 hsz43 (some ad122) x1_1.length co39 1 (by omega) q43
           have hr43 := Kd.F_cut (m := (1 : Int).toNat) (c := co39) hC43 (by omega) hroom43
           obtain ⟨A43, hA43⟩ : ∃ A1, A1 = (if co39 = (1 : Int).toNat then (some ad122) else ((some ad122) : Option Addr).map (·.add ((1 : Int).toNat * 4))) := ⟨_, rfl⟩
           obtain ⟨c43, hc43⟩ : ∃ c1, c1 = co39 - (1 : Int).toNat := ⟨_, rfl⟩
           have hy43 : y145.length = x1_1.length - (1 : Int).toNat := (by rw [Ny145.out, List.length_drop] <;> omega)
           rw [show (x1_1).drop (1 : Int).toNat = y145 from Ny145.out.symm] at hr43
           replace hr43 : Kd.F k36 _ _ A43 y145.length y145 := (by rw [hA43]; exact hr43)
           rw [← hy43, ← hA43, ← hc43] at hcut43
           have HO149 := Aside0.mk (show Kd.V k36 36 _ w.heap.size _ (.slice A43 y145.length c43) y145 from Kd.V_mk (by rw [hy43, hc43]; exact Nat.sub_le_sub_right hroom43 _) hr43)
           have HC149 := Aside0.mk (show y145.length ≤ c43 from by rw [hy43, hc43]; exact Nat.sub_le_sub_right hroom43 _)
           clear hr43 hC43 hroom43 hi043 hsz43 hc43
           have KY43 := Aside0.mk hy43
           have KA43 := Aside0.mk hA43
           clear hy43 hA43
           replace q43 := eq_true q43
           try go_wp2
           go_roundg kj3
           case measure => have := HK1.out; have := HJ3.out; omega
           case rel => exact ⟨(x0_1), (y145), (x7_1), H', ⟨by have := HK1.out; have := HJ3.out; omega⟩, ⟨by (with_reducible repeat (first | apply Kd.V_alloc | apply Kd.V_drewN | apply Kd.V_drew)); exact HO_0.out⟩, ⟨by (with_reducible repeat (first | apply Kd.V_alloc | apply Kd.V_drewN | apply Kd.V_drew)); exact HO149.out⟩, ⟨by (with_reducible repeat (first | apply Kd.R_alloc | apply Kd.R_drewN | apply Kd.R_drew)); exact HO_7.out⟩, ⟨by repeat (first | (with_reducible first | exact HB.out | apply below_alloc | apply pw_below_drewN | apply below_drew1) | exact HB.out)⟩⟩
          ·rw [if_neg c36] at H
           exact absurd H (by simp)
       ·rw [if_neg c11] at H
        exact absurd H (by simp)
      ·rw [if_neg c10] at H
       exact absurd H (by simp)
     ·replace c9 := Bool.eq_false_iff.mpr c9
      subst c9
      have H1 : (if x7_1.length + x0_1.length < 2932031007402 then ((some (x7_1 ++ x0_1 : List (S36))).bind fun y115 => (if y115.length + x1_1.length < 2932031007402 then (some (y115 ++ x1_1)) else (none))) else (none)) = some r := by rw [if_neg (show ¬ (false = true) by decide)] at H; exact H
      clear H
      have H := H1
      clear H1
      by_cases c44 : x7_1.length + x0_1.length < 2932031007402
      ·rw [if_pos c44] at H
       have LMc44 := Aside0.mk c44
       clear c44
       obtain ⟨y115, hy115⟩ : ∃ y_ : List (S36), y_ = (x7_1 ++ x0_1) := ⟨_, rfl⟩
       replace H : (if y115.length + x1_1.length < 2932031007402 then (some (y115 ++ x1_1)) else (none)) = some r := by first | (rw [hy115]; with_reducible exact H) | (have H2_ := (Option.bind_some _ _).symm.trans H; rw [hy115]; with_reducible exact H2_) | (have H2_ := (Option.bind_some _ _).symm.trans H; with_reducible exact H2_) | with_reducible exact H | (rw [hy115]; exact H) | exact H
       have Ny115 := Aside0.mk hy115
       clear hy115
       by_cases c45 : y115.length + x1_1.length < 2932031007402
       ·rw [if_pos c45] at H
        have LMc45 := Aside0.mk c45
        clear c45
        obtain ⟨y118, hy118⟩ : ∃ y_ : List (S36), y_ = (y115 ++ x1_1) := ⟨_, rfl⟩
        replace H : (some y118) = some r := by first | (rw [hy118]; with_reducible exact H) | (have H2_ := (Option.bind_some _ _).symm.trans H; rw [hy118]; with_reducible exact H2_) | (have H2_ := (Option.bind_some _ _).symm.trans H; with_reducible exact H2_) | with_reducible exact H | (rw [hy118]; exact H) | exact H
        have Ny118 := Aside0.mk hy118
        clear hy118
        obtain rfl := Option.some.inj H
        obtain ⟨Ao47, co47, eo47⟩ := Kd.V_slice HO_0.out
        subst eo47
        go_wp2_with (first | ((with_reducible refine gate_builtin (b := .append) (xs := #[.tmp 52, .tmp 53]) rfl ?_); (try (refine gate_guard (by rfl) ?_; dsimp only)); at_builtin; refine Kd.R_append_rows k36 (w0 := w) w.heap.size rfl (.tmp 52) (.tmp 53) 27 36 (.agg #[(.string ⟨#[]⟩), (.int .i64 0), (.bool false), (.string ⟨#[]⟩)]) 48 rfl Try.underlying27 info36 rfl (by decide) (by omega) u7 x7_1 x0_1 _ _ _ (fun k_ => (w.heap.size ≤ k_)) (fun _ => False) rfl rfl ?aO ?aR (fun _ _ h => h) (fun _ h => h.elim) ?aF ?aB ?aS ?aL ?_; (case aR => repeat (first | exact (Kd.V_reads' HO_0.out).2.2 | (with_reducible refine Kd.C_alloc ?_ _) | (with_reducible refine Kd.C_drewN ?_ _) | (with_reducible refine Kd.C_drew ?_))); (case aB => exact HB.out); (case aF => exact (fun k_ hk => (Nat.le_trans (below_size HB.out) hk))); (case aO => exact HO_7.out); (case aS => exact (below_size HB.out)); (case aL => have := LMc44.out; omega); intro v116 w46 ho hb hg hat; rw [← Ny115.out] at ho; have n0_ := Aside0.mk (Kd.V_afterv (ok := (fun k_ => ((P0_ k_ ∨ P1_ k_) ∨ w.heap.size ≤ k_))) HO_0.out hg hat); have n1_ := Aside0.mk (Kd.V_afterv (ok := (fun k_ => ((P0_ k_ ∨ P1_ k_) ∨ w.heap.size ≤ k_))) HO_1.out hg hat); have n2_ := Aside0.mk (hb); have n3_ := Aside0.mk (ho); clear HO_0; clear HO_1; clear HB; clear HO_7; have HO_0 := n0_; have HO_1 := n1_; have HB := n2_; have HO117 := n3_; clear n0_ n1_ n2_ n3_; clear ho hb hg hat; obtain ⟨Ao49, co49, eo49⟩ := Kd.V_slice HO_1.out; subst eo49) | ((with_reducible refine gate_builtin (b := .append) (xs := #[.tmp 54, .tmp 55]) rfl ?_); (try (refine gate_guard (by rfl) ?_; dsimp only)); at_builtin; refine Kd.R_append_rows k36 (w0 := w) w.heap.size rfl (.tmp 54) (.tmp 55) 27 36 (.agg #[(.string ⟨#[]⟩), (.int .i64 0), (.bool false), (.string ⟨#[]⟩)]) 48 rfl Try.underlying27 info36 rfl (by decide) (by omega) v116 y115 x1_1 _ _ _ (fun k_ => (w.heap.size ≤ k_)) (fun _ => False) rfl rfl ?aO ?aR (fun _ _ h => h) (fun _ h => h.elim) ?aF ?aB ?aS ?aL ?_; (case aR => repeat (first | exact (Kd.V_reads' HO_1.out).2.2 | (with_reducible refine Kd.C_alloc ?_ _) | (with_reducible refine Kd.C_drewN ?_ _) | (with_reducible refine Kd.C_drew ?_))); (case aB => exact HB.out); (case aF => exact (fun k_ hk => (Nat.le_trans (below_size HB.out) hk))); (case aO => exact HO117.out); (case aS => exact (below_size HB.out)); (case aL => have := LMc45.out; omega); intro v119 w48 ho hb hg hat; rw [← Ny118.out] at ho; have n0_ := Aside0.mk (Kd.V_afterv (ok := (fun k_ => ((P0_ k_ ∨ P1_ k_) ∨ w.heap.size ≤ k_))) HO_0.out hg hat); have n1_ := Aside0.mk (Kd.V_afterv (ok := (fun k_ => ((P0_ k_ ∨ P1_ k_) ∨ w.heap.size ≤ k_))) HO_1.out hg hat); have n2_ := Aside0.mk (hb); have n3_ := Aside0.mk (ho); clear HO_0; clear HO_1; clear HB; clear HO117; have HO_0 := n0_; have HO_1 := n1_; have HB := n2_; have HO120 := n3_; clear n0_ n1_ n2_ n3_; clear ho hb hg hat))
        go_ret
        exact ⟨_, by first | rfl | (simp [errW_none, errW_some] <;> rfl) | (simp [*, errW_none, errW_some] <;> rfl), by (with_reducible repeat (first | apply Kd.R_alloc | apply Kd.R_drewN | apply Kd.R_drew)); exact HO120.out, by repeat (first | (with_reducible first | exact HB.out | apply below_alloc | apply pw_below_drewN | apply below_drew1) | exact HB.out)⟩
       ·rw [if_neg c45] at H
        exact absurd H (by simp)
      ·rw [if_neg c44] at H
       exact absurd H (by simp)

end Go.Proofs.Ythdoanbadhfhjaa.PAll

-- slimmed
