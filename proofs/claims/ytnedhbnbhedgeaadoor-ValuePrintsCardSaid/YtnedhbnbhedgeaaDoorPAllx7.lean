-- Laid by ownprint.py (a program of the session, in wip/tools), out of the translation: Lean checks it.
import Derived.Test.YtnedhbnbhedgeaaDoorPAllx0
import Derived.Test.YtnedhbnbhedgeaaDoorPAllx6
import Derived.Test.YtnedhbnbhedgeaaDoorGa
namespace Go.Proofs.YtnedhbnbhedgeaaDoor.PAll
open Go.RowKit Go.Proofs.YtnedhbnbhedgeaaDoorW.PrintWords Go.Proofs.YtnedhbnbhedgeaaDoorW.PrintLast Go.Proofs.YtnedhbnbhedgeaaDoorW.PrintMore
attribute [local go_sem] max2_int min2_int max_two min_two max_three min_three max_four min_four   -- for this text's walks alone
set_option linter.unusedVariables false
set_option linter.unusedSimpArgs false

/-! ### moultref1_unquoted: function 30 -/
mutual
def moultref1_unquoted.l0 : Nat → ByteArray → List Int → Int → Option (ByteArray)
 | 0, _, _, _ => none
 | k + 1, x0, x3, x4 => if x4 < (x0.size : Int) then (if 0 ≤ x4 then (if (bt x0 x4) = 92 then (moultref1_unquoted.j1 k x0 x3 x4 (decide ((wrap64 (x4 + 1)) ≥ (x0.size : Int)))) else (moultref1_unquoted.j1 k x0 x3 x4 true)) else (none)) else (some (strOfNums x3))
def moultref1_unquoted.j1 : Nat → ByteArray → List Int → Int → Bool → Option (ByteArray)
 | 0, _, _, _, _ => none
 | k + 1, x0, x3, x4, x21 => if x21 = true then (if 0 ≤ x4 then (if x4 < (x0.size : Int) then (if x3.length < 140737488355328 then (moultref1_unquoted.l0 k x0 (x3 ++ [bt x0 x4]) (wrap64 (x4 + 1))) else (none)) else (none)) else (none)) else (if 0 ≤ (wrap64 (x4 + 1)) then (if (wrap64 (x4 + 1)) < (x0.size : Int) then (if (bt x0 (wrap64 (x4 + 1))) = 120 then (if (wrap64 (x4 + 3)) ≥ (x0.size : Int) then (moultref1_unquoted.j2 k x0 x3 x4 true) else (if 0 ≤ (wrap64 (x4 + 2)) then (if (wrap64 (x4 + 2)) < (x0.size : Int) then ((moultref1_hex.f k (bt x0 (wrap64 (x4 + 2)))).bind fun t218 => (if t218 < 0 then (moultref1_unquoted.j2 k x0 x3 x4 true) else (if 0 ≤ (wrap64 (x4 + 3)) then (if (wrap64 (x4 + 3)) < (x0.size : Int) then ((moultref1_hex.f k (bt x0 (wrap64 (x4 + 3)))).bind fun t219 => (moultref1_unquoted.j2 k x0 x3 x4 (decide (t219 < 0)))) else (none)) else (none)))) else (none)) else (none))) else (moultref1_unquoted.j2 k x0 x3 x4 true)) else (none)) else (none))
def moultref1_unquoted.j2 : Nat → ByteArray → List Int → Int → Bool → Option (ByteArray)
 | 0, _, _, _, _ => none
 | k + 1, x0, x3, x4, x55 => if x55 = true then (if 0 ≤ (wrap64 (x4 + 1)) then (if (wrap64 (x4 + 1)) < (x0.size : Int) then (if x3.length < 140737488355328 then (moultref1_unquoted.l0 k x0 (x3 ++ [bt x0 (wrap64 (x4 + 1))]) (wrap64 ((wrap64 (x4 + 1)) + 1))) else (none)) else (none)) else (none)) else (if 0 ≤ (wrap64 (x4 + 2)) then (if (wrap64 (x4 + 2)) < (x0.size : Int) then ((moultref1_hex.f k (bt x0 (wrap64 (x4 + 2)))).bind fun t223 => (if 0 ≤ (wrap64 (x4 + 3)) then (if (wrap64 (x4 + 3)) < (x0.size : Int) then ((moultref1_hex.f k (bt x0 (wrap64 (x4 + 3)))).bind fun t224 => (if x3.length < 140737488355328 then (moultref1_unquoted.l0 k x0 (x3 ++ [(wrap64 ((wrap64 (16 * t223)) + t224)) % 256]) (wrap64 ((wrap64 (x4 + 3)) + 1))) else (none))) else (none)) else (none))) else (none)) else (none))
end
def moultref1_unquoted.f (k : Nat) (a0 : ByteArray) : Option (ByteArray) := moultref1_unquoted.l0 k a0 ([] : List Int) 0
theorem moultref1_unquoted.mono_l : ∀ k, (∀ y0 y1 y2, LeO (moultref1_unquoted.l0 k y0 y1 y2) (moultref1_unquoted.l0 (k + 1) y0 y1 y2)) ∧ (∀ y0 y1 y2 y3, LeO (moultref1_unquoted.j1 k y0 y1 y2 y3) (moultref1_unquoted.j1 (k + 1) y0 y1 y2 y3)) ∧ (∀ y0 y1 y2 y3, LeO (moultref1_unquoted.j2 k y0 y1 y2 y3) (moultref1_unquoted.j2 (k + 1) y0 y1 y2 y3))
 | 0 => ⟨fun _ _ _ r h => by simp [moultref1_unquoted.l0] at h, fun _ _ _ _ r h => by simp [moultref1_unquoted.j1] at h, fun _ _ _ _ r h => by simp [moultref1_unquoted.j2] at h⟩
 | k + 1 => by
  obtain ⟨ih0, ih1, ih2⟩ := moultref1_unquoted.mono_l k
  refine ⟨?_, ?_, ?_⟩
  ·intro y0 y1 y2
   unfold moultref1_unquoted.l0
   repeat' first
   | (with_reducible exact ih0 _ _ _)
   | (with_reducible exact ih1 _ _ _ _)
   | (with_reducible exact ih2 _ _ _ _)
   | (with_reducible exact moultref1_hex.mono _ _)
   | (with_reducible exact LeO.refl _)
   | (with_reducible exact LeO.none _)
   | (with_reducible refine LeO.ite ?_ ?_)
   | (with_reducible refine LeO.bind ?_ (fun _ => ?_))
   | exact ih0 _ _ _
   | exact ih1 _ _ _ _
   | exact ih2 _ _ _ _
   | exact moultref1_hex.mono _ _
   | exact LeO.none _
   | refine LeO.ite ?_ ?_
   | refine LeO.bind ?_ (fun _ => ?_)
  ·intro y0 y1 y2 y3
   unfold moultref1_unquoted.j1
   repeat' first
   | (with_reducible exact ih0 _ _ _)
   | (with_reducible exact ih1 _ _ _ _)
   | (with_reducible exact ih2 _ _ _ _)
   | (with_reducible exact moultref1_hex.mono _ _)
   | (with_reducible exact LeO.refl _)
   | (with_reducible exact LeO.none _)
   | (with_reducible refine LeO.ite ?_ ?_)
   | (with_reducible refine LeO.bind ?_ (fun _ => ?_))
   | exact ih0 _ _ _
   | exact ih1 _ _ _ _
   | exact ih2 _ _ _ _
   | exact moultref1_hex.mono _ _
   | exact LeO.none _
   | refine LeO.ite ?_ ?_
   | refine LeO.bind ?_ (fun _ => ?_)
  ·intro y0 y1 y2 y3
   unfold moultref1_unquoted.j2
   repeat' first
   | (with_reducible exact ih0 _ _ _)
   | (with_reducible exact ih1 _ _ _ _)
   | (with_reducible exact ih2 _ _ _ _)
   | (with_reducible exact moultref1_hex.mono _ _)
   | (with_reducible exact LeO.refl _)
   | (with_reducible exact LeO.none _)
   | (with_reducible refine LeO.ite ?_ ?_)
   | (with_reducible refine LeO.bind ?_ (fun _ => ?_))
   | exact ih0 _ _ _
   | exact ih1 _ _ _ _
   | exact ih2 _ _ _ _
   | exact moultref1_hex.mono _ _
   | exact LeO.none _
   | refine LeO.ite ?_ ?_
   | refine LeO.bind ?_ (fun _ => ?_)
theorem moultref1_unquoted.mono : ∀ a0 k, LeO (moultref1_unquoted.f k a0) (moultref1_unquoted.f (k + 1) a0) := by
 intro a0 k
 obtain ⟨ih0, ih1, ih2⟩ := moultref1_unquoted.mono_l k
 unfold moultref1_unquoted.f
 repeat' first
   | (with_reducible exact ih0 _ _ _)
   | (with_reducible exact ih1 _ _ _ _)
   | (with_reducible exact ih2 _ _ _ _)
   | (with_reducible exact moultref1_hex.mono _ _)
   | (with_reducible exact LeO.refl _)
   | (with_reducible exact LeO.none _)
   | (with_reducible refine LeO.ite ?_ ?_)
   | (with_reducible refine LeO.bind ?_ (fun _ => ?_))
   | exact ih0 _ _ _
   | exact ih1 _ _ _ _
   | exact ih2 _ _ _ _
   | exact moultref1_hex.mono _ _
   | exact LeO.none _
   | refine LeO.ite ?_ ?_
   | refine LeO.bind ?_ (fun _ => ?_)
def moultref1_unquoted.T10 : Bool × List (List Nat × List Nat) := (true, [([], []), ([], []), ([], []), ([2], [2]), ([1, 3], [1, 3]), ([4], [4]), ([5], [5]), ([], []), ([], []), ([8], [8]), ([7, 9], [7, 9]), ([10, 5], [10]), ([6, 11], [6, 11]), ([12], [12]), ([13], [13]), ([0, 14, 11], [0, 14]), ([15, 15, 0, 1, 2, 3, 4, 5, 6, 7, 8, 9, 10, 11, 12, 13, 14, 15], [0, 15])])
def moultref1_unquoted.B10 : List Nat := [0, 0, 0, 4, 14, 30, 62, 0, 0, 256, 896, 1982, 4094, 8190, 16382, 32767, 65535]
theorem moultref1_unquoted.tab10 : rtab .any (opsOf Tryd.f30 10) = moultref1_unquoted.T10 := by kernel_rfl
theorem moultref1_unquoted.bits10 : waitsOk moultref1_unquoted.T10.2 moultref1_unquoted.B10 = true := by kernel_rfl
set_option maxHeartbeats 8000000 in
set_option maxRecDepth 100000 in
theorem moultref1_unquoted.calls (k : Nat) (a0 : ByteArray) (r : ByteArray) (w : World) (h : moultref1_unquoted.f k a0 = some r) :
  Calls Tryd.prog 30 #[.string a0] w fun e w' => e = .returned (.string r) ∧ Below w.heap.size w w' := by
 have HB := Aside0.mk (Below.refl w.heap.size w)
 have H : (moultref1_unquoted.l0 k a0 ([] : List Int) 0) = some r := h
 clear h
 have H' := Aside0.mk H
 clear H
 go_enter Tryd.func30, Tryd.ntmps30
 go_wp2
 go_loopg [3, 4] k (fun kq v3 v4 w' => ∃ (x3_1 : List Int) (x4_1 : Int), v4 = .int .i64 x4_1 ∧ Aside0 (moultref1_unquoted.l0 kq a0 x3_1 x4_1 = some r) ∧ Aside0 (kq ≤ k) ∧ Aside0 (Kd.R (Kd.int .u8) 5 w' w.heap.size (fun _ => True) v3 x3_1) ∧ Aside0 (Below w.heap.size w w'))
 case atStart => exact ⟨(([] : List Int)), (0), (by first | rfl | (simp; done) | (simp [*]; done)), H', ⟨Nat.le_refl _⟩, ⟨by first | exact Kd.R_nil _ _ _ _ _ | exact Kd.N_nil _ _ _ _ _ | exact Kd.V_nil _ _ _ _ _ | exact Kd.Q_nil _ _ _ _ _ | exact Kd.S_nil _ _ _ _ _⟩, ⟨by repeat (first | (with_reducible first | exact HB.out | apply below_alloc | apply pw_below_drewN | apply below_drew1) | exact HB.out)⟩⟩
 case round =>
  clear H'
  obtain ⟨x3_1, x4_1, rfl, HA, HK1, HO_3, HB⟩ := hrel
  cases gk with
  | zero => exact absurd HA.out (by simp [moultref1_unquoted.l0])
  | succ k1 =>
   have H := HA.out
   clear HA
   simp only [moultref1_unquoted.l0] at H
   by_cases c2 : x4_1 < (a0.size : Int)
   ·rw [if_pos c2] at H
    have c2b0 : decide (x4_1 < (a0.size : Int)) = true := decide_eq_true c2
    clear c2
    have HC3 := Aside0.mk H
    clear H
    go_upto_region 5 with (fail)
    go_cut [21] (fun v21 wc => ∃ (kq : Nat) (x21_2 : Bool), v21 = .bool x21_2 ∧ Aside0 (moultref1_unquoted.j1 kq a0 x3_1 x4_1 x21_2 = some r) ∧ Aside0 (kq ≤ k1) ∧ Aside0 (Kd.R (Kd.int .u8) 5 wc w.heap.size (fun _ => True) u3 x3_1) ∧ Aside0 (Below w.heap.size w wc))
    case first =>
     have H := HC3.out
     clear HC3
     by_cases c4 : 0 ≤ x4_1
     ·rw [if_pos c4] at H
      have c4b0 : decide (0 ≤ x4_1) = true := decide_eq_true c4
      clear c4
      (first | rw [c4b0] | (simp only [i64_w, i32_w]; rw [c4b0]) | skip)
      by_cases c6 : (bt a0 x4_1) = 92
      ·rw [if_pos c6] at H
       have c6b0 : ((bt a0 x4_1) == 92) = true := beq_iff_eq.mpr c6
       have c6b1 : ((bt a0 x4_1) != 92) = false := bne_eq_false_iff_eq.mpr c6
       clear c6
       have H' := Aside0.mk H
       clear H
       have p5 : 0 ≤ (x4_1 : Int) := of_decide_eq_true (by first | (with_reducible assumption) | assumption)
       have q5 : x4_1 < (a0.size : Int) := of_decide_eq_true (by first | (with_reducible assumption) | assumption)
       have hx5 := bt_at a0 x4_1
       replace p5 := eq_true p5
       replace q5 := eq_true q5
       go_wp2
       go_meet
       case rel => exact ⟨_, (decide ((wrap64 (x4_1 + 1)) ≥ (a0.size : Int))), (by first | rfl | (simp; done) | (simp [*]; done)), H', ⟨by have := HK1.out; first | omega | exact Nat.le_refl _⟩, ⟨by (with_reducible repeat (first | apply Kd.R_alloc | apply Kd.R_drewN | apply Kd.R_drew)); exact HO_3.out⟩, ⟨by repeat (first | (with_reducible first | exact HB.out | apply below_alloc | apply pw_below_drewN | apply below_drew1) | exact HB.out)⟩⟩
      ·rw [if_neg c6] at H
       have c6b0 : ((bt a0 x4_1) == 92) = false := beq_eq_false_iff_ne.mpr c6
       have c6b1 : ((bt a0 x4_1) != 92) = true := bne_iff_ne.mpr c6
       have H' := Aside0.mk H
       clear H
       have p5 : 0 ≤ (x4_1 : Int) := of_decide_eq_true (by first | (with_reducible assumption) | assumption)
       have q5 : x4_1 < (a0.size : Int) := of_decide_eq_true (by first | (with_reducible assumption) | assumption)
       have hx5 := bt_at a0 x4_1
       replace p5 := eq_true p5
       replace q5 := eq_true q5
       go_wp2
       go_meet
       case rel => exact ⟨_, (true), (by first | rfl | (simp; done) | (simp [*]; done)), H', ⟨by have := HK1.out; first | omega | exact Nat.le_refl _⟩, ⟨by (with_reducible repeat (first | apply Kd.R_alloc | apply Kd.R_drewN | apply Kd.R_drew)); exact HO_3.out⟩, ⟨by repeat (first | (with_reducible first | exact HB.out | apply below_alloc | apply pw_below_drewN | apply below_drew1) | exact HB.out)⟩⟩
     ·rw [if_neg c4] at H
      exact absurd H (by simp)
    case rest =>
     clear HC3
     try clear c2
     try clear c2b0
     try clear p2
     try clear c3
     try clear c4
     try clear c4b0
     try clear p5
     try clear q5
     try clear hx5
     try clear c6
     try clear c6b0
     try clear c6b1
     try clear p6
     try clear p5
     try clear q5
     obtain ⟨kq, x21_2, rfl, HA, HJ2, HO_3, HB⟩ := hcut
     cases kq with
     | zero => exact absurd HA.out (by simp [moultref1_unquoted.j1])
     | succ kj2 =>
      have H := HA.out
      clear HA
      simp only [moultref1_unquoted.j1] at H
      by_cases c7 : x21_2 = true
      ·subst c7
       have H1 : (if 0 ≤ x4_1 then (if x4_1 < (a0.size : Int) then (if x3_1.length < 140737488355328 then (moultref1_unquoted.l0 kj2 a0 (x3_1 ++ [bt a0 x4_1]) (wrap64 (x4_1 + 1))) else (none)) else (none)) else (none)) = some r := by rw [if_pos rfl] at H; exact H
       clear H
       have H := H1
       clear H1
       by_cases c8 : 0 ≤ x4_1
       ·rw [if_pos c8] at H
        have c8b0 : decide (0 ≤ x4_1) = true := decide_eq_true c8
        clear c8
        by_cases c9 : x4_1 < (a0.size : Int)
        ·rw [if_pos c9] at H
         have c9b0 : decide (x4_1 < (a0.size : Int)) = true := decide_eq_true c9
         clear c9
         by_cases c11 : x3_1.length < 140737488355328
         ·rw [if_pos c11] at H
          have LMc11 := Aside0.mk c11
          clear c11
          obtain ⟨y215, hy215⟩ : ∃ y_ : List Int, y_ = (x3_1 ++ [bt a0 x4_1]) := ⟨_, rfl⟩
          replace H : (moultref1_unquoted.l0 kj2 a0 y215 (wrap64 (x4_1 + 1))) = some r := by first | (rw [hy215]; with_reducible exact H) | (have H2_ := (Option.bind_some _ _).symm.trans H; rw [hy215]; with_reducible exact H2_) | (have H2_ := (Option.bind_some _ _).symm.trans H; with_reducible exact H2_) | with_reducible exact H | (rw [hy215]; exact H) | exact H
          have Ny215 := Aside0.mk hy215
          clear hy215
          have H' := Aside0.mk H
          clear H
          have p10 : 0 ≤ (x4_1 : Int) := of_decide_eq_true (by first | (with_reducible assumption) | assumption)
          have q10 : x4_1 < (a0.size : Int) := of_decide_eq_true (by first | (with_reducible assumption) | assumption)
          have hx10 := bt_at a0 x4_1
          replace p10 := eq_true p10
          replace q10 := eq_true q10
          go_wp2_with (first | ((with_reducible refine gate_builtin (b := .append) (xs := #[.tmp 22, .tmp 26]) rfl ?_); (try (refine gate_guard (by rfl) ?_; dsimp only)); at_builtin; refine Kd.R_append (Kd.int .u8) (w0 := w) w.heap.size rfl (.tmp 22) (.tmp 26) 52 5 (.int .u8 0) 1 rfl Tryd.underlying52 info5 rfl (by decide) (by omega) u3 x3_1 (bt a0 x4_1) [.int .u8 (bt a0 x4_1)] (fun _ => True) (fun _ => False) rfl rfl ?aP (fun _ hk => hk.elim) ?aF ?aO ?aB ?aS ?aL ?_; (case aP => exact rfl); (case aB => exact (by repeat (first | (with_reducible first | exact HB.out | apply below_alloc | apply pw_below_drewN | apply below_drew1) | exact HB.out))); (case aF => exact (fun _ _ => trivial)); (case aO => exact (by (with_reducible repeat (first | apply Kd.R_alloc | apply Kd.R_drewN | apply Kd.R_drew)); exact HO_3.out)); (case aS => exact (below_size (by repeat (first | (with_reducible first | exact HB.out | apply below_alloc | apply pw_below_drewN | apply below_drew1) | exact HB.out)))); (case aL => have := LMc11.out; omega); intro v216 w12 ho hb hg hat; rw [← Ny215.out] at ho; have n0_ := Aside0.mk (hb); have n1_ := Aside0.mk (ho); clear HB; clear HO_3; have HB := n0_; have HO217 := n1_; clear n0_ n1_; clear ho hb hg hat))
          go_roundg kj2
          case measure => have := HK1.out; have := HJ2.out; omega
          case rel => exact ⟨(y215), (wrap64 (x4_1 + 1)), (by first | rfl | (simp; done) | (simp [*]; done)), H', ⟨by have := HK1.out; have := HJ2.out; omega⟩, ⟨by (with_reducible repeat (first | apply Kd.R_alloc | apply Kd.R_drewN | apply Kd.R_drew)); exact HO217.out⟩, ⟨by repeat (first | (with_reducible first | exact HB.out | apply below_alloc | apply pw_below_drewN | apply below_drew1) | exact HB.out)⟩⟩
         ·rw [if_neg c11] at H
          exact absurd H (by simp)
        ·rw [if_neg c9] at H
         exact absurd H (by simp)
       ·rw [if_neg c8] at H
        exact absurd H (by simp)
      ·replace c7 := Bool.eq_false_iff.mpr c7
       subst c7
       have H1 : (if 0 ≤ (wrap64 (x4_1 + 1)) then (if (wrap64 (x4_1 + 1)) < (a0.size : Int) then (if (bt a0 (wrap64 (x4_1 + 1))) = 120 then (if (wrap64 (x4_1 + 3)) ≥ (a0.size : Int) then (moultref1_unquoted.j2 kj2 a0 x3_1 x4_1 true) else (if 0 ≤ (wrap64 (x4_1 + 2)) then (if (wrap64 (x4_1 + 2)) < (a0.size : Int) then ((moultref1_hex.f kj2 (bt a0 (wrap64 (x4_1 + 2)))).bind fun t218 => (if t218 < 0 then (moultref1_unquoted.j2 kj2 a0 x3_1 x4_1 true) else (if 0 ≤ (wrap64 (x4_1 + 3)) then (if (wrap64 (x4_1 + 3)) < (a0.size : Int) then ((moultref1_hex.f kj2 (bt a0 (wrap64 (x4_1 + 3)))).bind fun t219 => (moultref1_unquoted.j2 kj2 a0 x3_1 x4_1 (decide (t219 < 0)))) else (none)) else (none)))) else (none)) else (none))) else (moultref1_unquoted.j2 kj2 a0 x3_1 x4_1 true)) else (none)) else (none)) = some r := by rw [if_neg (show ¬ (false = true) by decide)] at H; exact H
       clear H
       have H := H1
       clear H1
       have HC13 := Aside0.mk H
       clear H
       go_upto_region 7 with (fail)
       go_cut [55] (fun v55 wc => ∃ (kq : Nat) (x55_12 : Bool), v55 = .bool x55_12 ∧ Aside0 (moultref1_unquoted.j2 kq a0 x3_1 x4_1 x55_12 = some r) ∧ Aside0 (kq ≤ kj2) ∧ Aside0 (Kd.R (Kd.int .u8) 5 wc w.heap.size (fun _ => True) u3 x3_1) ∧ Aside0 (Below w.heap.size w wc))
       case first =>
        have H := HC13.out
        clear HC13
        obtain ⟨ji14, hji14⟩ : ∃ j_ : Int, (wrap64 (x4_1 + 1)) = j_ := ⟨_, rfl⟩
        replace H : (if 0 ≤ (ji14) then (if (ji14) < (a0.size : Int) then (if (bt a0 (ji14)) = 120 then (if (wrap64 (x4_1 + 3)) ≥ (a0.size : Int) then (moultref1_unquoted.j2 kj2 a0 x3_1 x4_1 true) else (if 0 ≤ (wrap64 (x4_1 + 2)) then (if (wrap64 (x4_1 + 2)) < (a0.size : Int) then ((moultref1_hex.f kj2 (bt a0 (wrap64 (x4_1 + 2)))).bind fun t218 => (if t218 < 0 then (moultref1_unquoted.j2 kj2 a0 x3_1 x4_1 true) else (if 0 ≤ (wrap64 (x4_1 + 3)) then (if (wrap64 (x4_1 + 3)) < (a0.size : Int) then ((moultref1_hex.f kj2 (bt a0 (wrap64 (x4_1 + 3)))).bind fun t219 => (moultref1_unquoted.j2 kj2 a0 x3_1 x4_1 (decide (t219 < 0)))) else (none)) else (none)))) else (none)) else (none))) else (moultref1_unquoted.j2 kj2 a0 x3_1 x4_1 true)) else (none)) else (none)) = some r := by first | (rw [hji14] at H; exact H) | (simp only [hji14] at H ⊢; exact H)
        have hji14w : (IntKind.i64.wrap (x4_1 + 1)) = ji14 := (i64_w _).trans hji14
        by_cases c15 : 0 ≤ (ji14)
        ·rw [if_pos c15] at H
         have c15b0 : decide (0 ≤ (ji14)) = true := decide_eq_true c15
         clear c15
         (first | rw [c15b0] | (simp only [i64_w, i32_w]; rw [c15b0]) | skip)
         by_cases c16 : (ji14) < (a0.size : Int)
         ·rw [if_pos c16] at H
          have c16b0 : decide ((ji14) < (a0.size : Int)) = true := decide_eq_true c16
          clear c16
          by_cases c18 : (bt a0 (ji14)) = 120
          ·rw [if_pos c18] at H
           have c18b0 : ((bt a0 (ji14)) == 120) = true := beq_iff_eq.mpr c18
           have c18b1 : ((bt a0 (ji14)) != 120) = false := bne_eq_false_iff_eq.mpr c18
           clear c18
           by_cases c19 : (wrap64 (x4_1 + 3)) ≥ (a0.size : Int)
           ·rw [if_pos c19] at H
            have c19b0 : decide ((a0.size : Int) ≤ (wrap64 (x4_1 + 3))) = true := decide_eq_true c19
            clear c19
            have H' := Aside0.mk H
            clear H
            have p17 : 0 ≤ ((ji14) : Int) := of_decide_eq_true (by first | (with_reducible assumption) | assumption)
            have q17 : (ji14) < (a0.size : Int) := of_decide_eq_true (by first | (with_reducible assumption) | assumption)
            have hx17 := bt_at a0 (ji14)
            replace p17 := eq_true p17
            replace q17 := eq_true q17
            go_wp2
            go_meet
            case rel => exact ⟨_, (true), (by first | rfl | (simp; done) | (simp [*]; done)), H', ⟨by have := HK1.out; have := HJ2.out; first | omega | exact Nat.le_refl _⟩, ⟨by (with_reducible repeat (first | apply Kd.R_alloc | apply Kd.R_drewN | apply Kd.R_drew)); exact HO_3.out⟩, ⟨by repeat (first | (with_reducible first | exact HB.out | apply below_alloc | apply pw_below_drewN | apply below_drew1) | exact HB.out)⟩⟩
           ·rw [if_neg c19] at H
            have c19b0 : decide ((a0.size : Int) ≤ (wrap64 (x4_1 + 3))) = false := decide_eq_false c19
            clear c19
            obtain ⟨ji20, hji20⟩ : ∃ j_ : Int, (wrap64 (x4_1 + 2)) = j_ := ⟨_, rfl⟩
            replace H : (if 0 ≤ (ji20) then (if (ji20) < (a0.size : Int) then ((moultref1_hex.f kj2 (bt a0 (ji20))).bind fun t218 => (if t218 < 0 then (moultref1_unquoted.j2 kj2 a0 x3_1 x4_1 true) else (if 0 ≤ (wrap64 (x4_1 + 3)) then (if (wrap64 (x4_1 + 3)) < (a0.size : Int) then ((moultref1_hex.f kj2 (bt a0 (wrap64 (x4_1 + 3)))).bind fun t219 => (moultref1_unquoted.j2 kj2 a0 x3_1 x4_1 (decide (t219 < 0)))) else (none)) else (none)))) else (none)) else (none)) = some r := by first | (rw [hji20] at H; exact H) | (simp only [hji20] at H ⊢; exact H)
            have hji20w : (IntKind.i64.wrap (x4_1 + 2)) = ji20 := (i64_w _).trans hji20
            by_cases c21 : 0 ≤ (ji20)
            ·rw [if_pos c21] at H
             have c21b0 : decide (0 ≤ (ji20)) = true := decide_eq_true c21
             clear c21
             by_cases c22 : (ji20) < (a0.size : Int)
             ·rw [if_pos c22] at H
              have c22b0 : decide ((ji20) < (a0.size : Int)) = true := decide_eq_true c22
              clear c22
              replace H := Option.bind_eq_some_iff.mp H
              obtain ⟨t218, A240, H⟩ := H
              replace H : (if t218 < 0 then (moultref1_unquoted.j2 kj2 a0 x3_1 x4_1 true) else (if 0 ≤ (wrap64 (x4_1 + 3)) then (if (wrap64 (x4_1 + 3)) < (a0.size : Int) then ((moultref1_hex.f kj2 (bt a0 (wrap64 (x4_1 + 3)))).bind fun t219 => (moultref1_unquoted.j2 kj2 a0 x3_1 x4_1 (decide (t219 < 0)))) else (none)) else (none))) = some r := H
              have A24 := Aside0.mk A240
              clear A240
              by_cases c25 : t218 < 0
              ·rw [if_pos c25] at H
               have c25b0 : decide (t218 < 0) = true := decide_eq_true c25
               clear c25
               have H' := Aside0.mk H
               clear H
               have p17 : 0 ≤ ((ji14) : Int) := of_decide_eq_true (by first | (with_reducible assumption) | assumption)
               have q17 : (ji14) < (a0.size : Int) := of_decide_eq_true (by first | (with_reducible assumption) | assumption)
               have hx17 := bt_at a0 (ji14)
               replace p17 := eq_true p17
               replace q17 := eq_true q17
               have p23 : 0 ≤ ((ji20) : Int) := of_decide_eq_true (by first | (with_reducible assumption) | assumption)
               have q23 : (ji20) < (a0.size : Int) := of_decide_eq_true (by first | (with_reducible assumption) | assumption)
               have hx23 := bt_at a0 (ji20)
               replace p23 := eq_true p23
               replace q23 := eq_true q23
               go_wp2_with (first | (go_at_call 42; (with_reducible refine (moultref1_hex.calls kj2 (bt a0 (ji20)) t218 _ A24.out).mono ?_); rintro e w' ⟨rfl, ⟨nd, rfl⟩⟩))
               go_meet
               case rel => exact ⟨_, (true), (by first | rfl | (simp; done) | (simp [*]; done)), H', ⟨by have := HK1.out; have := HJ2.out; first | omega | exact Nat.le_refl _⟩, ⟨by (with_reducible repeat (first | apply Kd.R_alloc | apply Kd.R_drewN | apply Kd.R_drew)); exact HO_3.out⟩, ⟨by repeat (first | (with_reducible first | exact HB.out | apply below_alloc | apply pw_below_drewN | apply below_drew1) | exact HB.out)⟩⟩
              ·rw [if_neg c25] at H
               have c25b0 : decide (t218 < 0) = false := decide_eq_false c25
               clear c25
               obtain ⟨ji26, hji26⟩ : ∃ j_ : Int, (wrap64 (x4_1 + 3)) = j_ := ⟨_, rfl⟩
               replace H : (if 0 ≤ (ji26) then (if (ji26) < (a0.size : Int) then ((moultref1_hex.f kj2 (bt a0 (ji26))).bind fun t219 => (moultref1_unquoted.j2 kj2 a0 x3_1 x4_1 (decide (t219 < 0)))) else (none)) else (none)) = some r := by first | (rw [hji26] at H; exact H) | (simp only [hji26] at H ⊢; exact H)
               (try rw [hji26] at c19b0)
               (try rw [hji26] at A24)
               have hji26w : (IntKind.i64.wrap (x4_1 + 3)) = ji26 := (i64_w _).trans hji26
               by_cases c27 : 0 ≤ (ji26)
               ·rw [if_pos c27] at H
                have c27b0 : decide (0 ≤ (ji26)) = true := decide_eq_true c27
                clear c27
                by_cases c28 : (ji26) < (a0.size : Int)
                ·rw [if_pos c28] at H
                 have c28b0 : decide ((ji26) < (a0.size : Int)) = true := decide_eq_true c28
                 clear c28
                 replace H := Option.bind_eq_some_iff.mp H
                 obtain ⟨t219, A300, H⟩ := H
                 replace H : (moultref1_unquoted.j2 kj2 a0 x3_1 x4_1 (decide (t219 < 0))) = some r := H
                 have A30 := Aside0.mk A300
                 clear A300
                 have H' := Aside0.mk H
                 clear H
                 have p17 : 0 ≤ ((ji14) : Int) := of_decide_eq_true (by first | (with_reducible assumption) | assumption)
                 have q17 : (ji14) < (a0.size : Int) := of_decide_eq_true (by first | (with_reducible assumption) | assumption)
                 have hx17 := bt_at a0 (ji14)
                 replace p17 := eq_true p17
                 replace q17 := eq_true q17
                 have p23 : 0 ≤ ((ji20) : Int) := of_decide_eq_true (by first | (with_reducible assumption) | assumption)
                 have q23 : (ji20) < (a0.size : Int) := of_decide_eq_true (by first | (with_reducible assumption) | assumption)
                 have hx23 := bt_at a0 (ji20)
                 replace p23 := eq_true p23
                 replace q23 := eq_true q23
                 go_wp2_with (first | (go_at_call 42; (with_reducible refine (moultref1_hex.calls kj2 (bt a0 (ji20)) t218 _ A24.out).mono ?_); rintro e w' ⟨rfl, ⟨nd, rfl⟩⟩; have p29 : 0 ≤ ((ji26) : Int) := of_decide_eq_true (by first | (with_reducible assumption) | assumption); have q29 : (ji26) < (a0.size : Int) := of_decide_eq_true (by first | (with_reducible assumption) | assumption); have hx29 := bt_at a0 (ji26); replace p29 := eq_true p29; replace q29 := eq_true q29) | (go_at_call 42; (with_reducible refine (moultref1_hex.calls kj2 (bt a0 (ji26)) t219 _ A30.out).mono ?_); rintro e w' ⟨rfl, ⟨nd, rfl⟩⟩))
                 go_meet
                 case rel => exact ⟨_, (decide (t219 < 0)), (by first | rfl | (simp; done) | (simp [*]; done)), H', ⟨by have := HK1.out; have := HJ2.out; first | omega | exact Nat.le_refl _⟩, ⟨by (with_reducible repeat (first | apply Kd.R_alloc | apply Kd.R_drewN | apply Kd.R_drew)); exact HO_3.out⟩, ⟨by repeat (first | (with_reducible first | exact HB.out | apply below_alloc | apply pw_below_drewN | apply below_drew1) | exact HB.out)⟩⟩
                ·rw [if_neg c28] at H
                 exact absurd H (by simp)
               ·rw [if_neg c27] at H
                exact absurd H (by simp)
             ·rw [if_neg c22] at H
              exact absurd H (by simp)
            ·rw [if_neg c21] at H
             exact absurd H (by simp)
          ·rw [if_neg c18] at H
           have c18b0 : ((bt a0 (ji14)) == 120) = false := beq_eq_false_iff_ne.mpr c18
           have c18b1 : ((bt a0 (ji14)) != 120) = true := bne_iff_ne.mpr c18
           have H' := Aside0.mk H
           clear H
           have p17 : 0 ≤ ((ji14) : Int) := of_decide_eq_true (by first | (with_reducible assumption) | assumption)
           have q17 : (ji14) < (a0.size : Int) := of_decide_eq_true (by first | (with_reducible assumption) | assumption)
           have hx17 := bt_at a0 (ji14)
           replace p17 := eq_true p17
           replace q17 := eq_true q17
           go_wp2
           go_meet
           case rel => exact ⟨_, (true), (by first | rfl | (simp; done) | (simp [*]; done)), H', ⟨by have := HK1.out; have := HJ2.out; first | omega | exact Nat.le_refl _⟩, ⟨by (with_reducible repeat (first | apply Kd.R_alloc | apply Kd.R_drewN | apply Kd.R_drew)); exact HO_3.out⟩, ⟨by repeat (first | (with_reducible first | exact HB.out | apply below_alloc | apply pw_below_drewN | apply below_drew1) | exact HB.out)⟩⟩
         ·rw [if_neg c16] at H
          exact absurd H (by simp)
        ·rw [if_neg c15] at H
         exact absurd H (by simp)
       case rest =>
        clear HC13
        try clear c1
        try clear p1
        try clear q1
        try clear hx1
        try clear c2
        try clear c2b0
        try clear p2
        try clear q2
        try clear hx2
        try clear c3
        try clear c4
        try clear c4b0
        try clear p5
        try clear q5
        try clear hx5
        try clear c6
        try clear c6b0
        try clear c6b1
        try clear p6
        try clear c7
        try clear c8
        try clear c8b0
        try clear c9
        try clear c9b0
        try clear p10
        try clear q10
        try clear hx10
        try clear c11
        try clear c15
        try clear c15b0
        try clear c16
        try clear c16b0
        try clear p17
        try clear q17
        try clear hx17
        try clear c18
        try clear c18b0
        try clear c18b1
        try clear c19
        try clear c19b0
        try clear c21
        try clear c21b0
        try clear c22
        try clear c22b0
        try clear p23
        try clear q23
        try clear hx23
        try clear c25
        try clear c25b0
        try clear c27
        try clear c27b0
        try clear c28
        try clear c28b0
        try clear p29
        try clear q29
        try clear hx29
        try clear c30
        try clear p10
        try clear p17
        try clear p2
        try clear p23
        try clear p29
        try clear p5
        try clear p6
        try clear q10
        try clear q17
        try clear q23
        try clear q29
        try clear q5
        obtain ⟨kq, x55_12, rfl, HA, HJ12, HO_3, HB⟩ := hcut
        cases kq with
        | zero => exact absurd HA.out (by simp [moultref1_unquoted.j2])
        | succ kj12 =>
         have H := HA.out
         clear HA
         simp only [moultref1_unquoted.j2] at H
         by_cases c31 : x55_12 = true
         ·subst c31
          have H1 : (if 0 ≤ (wrap64 (x4_1 + 1)) then (if (wrap64 (x4_1 + 1)) < (a0.size : Int) then (if x3_1.length < 140737488355328 then (moultref1_unquoted.l0 kj12 a0 (x3_1 ++ [bt a0 (wrap64 (x4_1 + 1))]) (wrap64 ((wrap64 (x4_1 + 1)) + 1))) else (none)) else (none)) else (none)) = some r := by rw [if_pos rfl] at H; exact H
          clear H
          have H := H1
          clear H1
          obtain ⟨ji32, hji32⟩ : ∃ j_ : Int, (wrap64 (x4_1 + 1)) = j_ := ⟨_, rfl⟩
          replace H : (if 0 ≤ (ji32) then (if (ji32) < (a0.size : Int) then (if x3_1.length < 140737488355328 then (moultref1_unquoted.l0 kj12 a0 (x3_1 ++ [bt a0 (ji32)]) (wrap64 ((ji32) + 1))) else (none)) else (none)) else (none)) = some r := by first | (rw [hji32] at H; exact H) | (simp only [hji32] at H ⊢; exact H)
          have hji32w : (IntKind.i64.wrap (x4_1 + 1)) = ji32 := (i64_w _).trans hji32
          by_cases c33 : 0 ≤ (ji32)
          ·rw [if_pos c33] at H
           have c33b0 : decide (0 ≤ (ji32)) = true := decide_eq_true c33
           clear c33
           by_cases c34 : (ji32) < (a0.size : Int)
           ·rw [if_pos c34] at H
            have c34b0 : decide ((ji32) < (a0.size : Int)) = true := decide_eq_true c34
            clear c34
            by_cases c36 : x3_1.length < 140737488355328
            ·rw [if_pos c36] at H
             have LMc36 := Aside0.mk c36
             clear c36
             obtain ⟨y220, hy220⟩ : ∃ y_ : List Int, y_ = (x3_1 ++ [bt a0 (ji32)]) := ⟨_, rfl⟩
             replace H : (moultref1_unquoted.l0 kj12 a0 y220 (wrap64 ((ji32) + 1))) = some r := by first | (rw [hy220]; with_reducible exact H) | (have H2_ := (Option.bind_some _ _).symm.trans H; rw [hy220]; with_reducible exact H2_) | (have H2_ := (Option.bind_some _ _).symm.trans H; with_reducible exact H2_) | with_reducible exact H | (rw [hy220]; exact H) | exact H
             have Ny220 := Aside0.mk hy220
             clear hy220
             have H' := Aside0.mk H
             clear H
             have p35 : 0 ≤ ((ji32) : Int) := of_decide_eq_true (by first | (with_reducible assumption) | assumption)
             have q35 : (ji32) < (a0.size : Int) := of_decide_eq_true (by first | (with_reducible assumption) | assumption)
             have hx35 := bt_at a0 (ji32)
             replace p35 := eq_true p35
             replace q35 := eq_true q35
             go_wp2_with (first | ((with_reducible refine gate_builtin (b := .append) (xs := #[.tmp 56, .tmp 61]) rfl ?_); (try (refine gate_guard (by rfl) ?_; dsimp only)); at_builtin; refine Kd.R_append (Kd.int .u8) (w0 := w) w.heap.size rfl (.tmp 56) (.tmp 61) 52 5 (.int .u8 0) 1 rfl Tryd.underlying52 info5 rfl (by decide) (by omega) u3 x3_1 (bt a0 (ji32)) [.int .u8 (bt a0 (ji32))] (fun _ => True) (fun _ => False) rfl rfl ?aP (fun _ hk => hk.elim) ?aF ?aO ?aB ?aS ?aL ?_; (case aP => exact rfl); (case aB => exact (by repeat (first | (with_reducible first | exact HB.out | apply below_alloc | apply pw_below_drewN | apply below_drew1) | exact HB.out))); (case aF => exact (fun _ _ => trivial)); (case aO => exact (by (with_reducible repeat (first | apply Kd.R_alloc | apply Kd.R_drewN | apply Kd.R_drew)); exact HO_3.out)); (case aS => exact (below_size (by repeat (first | (with_reducible first | exact HB.out | apply below_alloc | apply pw_below_drewN | apply below_drew1) | exact HB.out)))); (case aL => have := LMc36.out; omega); intro v221 w37 ho hb hg hat; rw [← Ny220.out] at ho; have n0_ := Aside0.mk (hb); have n1_ := Aside0.mk (ho); clear HB; clear HO_3; have HB := n0_; have HO222 := n1_; clear n0_ n1_; clear ho hb hg hat))
             go_roundg kj12
             case measure => have := HK1.out; have := HJ2.out; have := HJ12.out; omega
             case rel => exact ⟨(y220), (wrap64 ((ji32) + 1)), (by first | rfl | (simp; done) | (simp only [← hji32] <;> (first | rfl | simp)) | (simp [*]; done)), H', ⟨by have := HK1.out; have := HJ2.out; have := HJ12.out; omega⟩, ⟨by (with_reducible repeat (first | apply Kd.R_alloc | apply Kd.R_drewN | apply Kd.R_drew)); exact HO222.out⟩, ⟨by repeat (first | (with_reducible first | exact HB.out | apply below_alloc | apply pw_below_drewN | apply below_drew1) | exact HB.out)⟩⟩
            ·rw [if_neg c36] at H
             exact absurd H (by simp)
           ·rw [if_neg c34] at H
            exact absurd H (by simp)
          ·rw [if_neg c33] at H
           exact absurd H (by simp)
         ·replace c31 := Bool.eq_false_iff.mpr c31
          subst c31
          have H1 : (if 0 ≤ (wrap64 (x4_1 + 2)) then (if (wrap64 (x4_1 + 2)) < (a0.size : Int) then ((moultref1_hex.f kj12 (bt a0 (wrap64 (x4_1 + 2)))).bind fun t223 => (if 0 ≤ (wrap64 (x4_1 + 3)) then (if (wrap64 (x4_1 + 3)) < (a0.size : Int) then ((moultref1_hex.f kj12 (bt a0 (wrap64 (x4_1 + 3)))).bind fun t224 => (if x3_1.length < 140737488355328 then (moultref1_unquoted.l0 kj12 a0 (x3_1 ++ [(wrap64 ((wrap64 (16 * t223)) + t224)) % 256]) (wrap64 ((wrap64 (x4_1 + 3)) + 1))) else (none))) else (none)) else (none))) else (none)) else (none)) = some r := by rw [if_neg (show ¬ (false = true) by decide)] at H; exact H
          clear H
          have H := H1
          clear H1
          obtain ⟨ji38, hji38⟩ : ∃ j_ : Int, (wrap64 (x4_1 + 2)) = j_ := ⟨_, rfl⟩
          replace H : (if 0 ≤ (ji38) then (if (ji38) < (a0.size : Int) then ((moultref1_hex.f kj12 (bt a0 (ji38))).bind fun t223 => (if 0 ≤ (wrap64 (x4_1 + 3)) then (if (wrap64 (x4_1 + 3)) < (a0.size : Int) then ((moultref1_hex.f kj12 (bt a0 (wrap64 (x4_1 + 3)))).bind fun t224 => (if x3_1.length < 140737488355328 then (moultref1_unquoted.l0 kj12 a0 (x3_1 ++ [(wrap64 ((wrap64 (16 * t223)) + t224)) % 256]) (wrap64 ((wrap64 (x4_1 + 3)) + 1))) else (none))) else (none)) else (none))) else (none)) else (none)) = some r := by first | (rw [hji38] at H; exact H) | (simp only [hji38] at H ⊢; exact H)
          have hji38w : (IntKind.i64.wrap (x4_1 + 2)) = ji38 := (i64_w _).trans hji38
          by_cases c39 : 0 ≤ (ji38)
          ·rw [if_pos c39] at H
           have c39b0 : decide (0 ≤ (ji38)) = true := decide_eq_true c39
           clear c39
           by_cases c40 : (ji38) < (a0.size : Int)
           ·rw [if_pos c40] at H
            have c40b0 : decide ((ji38) < (a0.size : Int)) = true := decide_eq_true c40
            clear c40
            replace H := Option.bind_eq_some_iff.mp H
            obtain ⟨t223, A420, H⟩ := H
            replace H : (if 0 ≤ (wrap64 (x4_1 + 3)) then (if (wrap64 (x4_1 + 3)) < (a0.size : Int) then ((moultref1_hex.f kj12 (bt a0 (wrap64 (x4_1 + 3)))).bind fun t224 => (if x3_1.length < 140737488355328 then (moultref1_unquoted.l0 kj12 a0 (x3_1 ++ [(wrap64 ((wrap64 (16 * t223)) + t224)) % 256]) (wrap64 ((wrap64 (x4_1 + 3)) + 1))) else (none))) else (none)) else (none)) = some r := H
            have A42 := Aside0.mk A420
            clear A420
            obtain ⟨ji43, hji43⟩ : ∃ j_ : Int, (wrap64 (x4_1 + 3)) = j_ := ⟨_, rfl⟩
            replace H : (if 0 ≤ (ji43) then (if (ji43) < (a0.size : Int) then ((moultref1_hex.f kj12 (bt a0 (ji43))).bind fun t224 => (if x3_1.length < 140737488355328 then (moultref1_unquoted.l0 kj12 a0 (x3_1 ++ [(wrap64 ((wrap64 (16 * t223)) + t224)) % 256]) (wrap64 ((ji43) + 1))) else (none))) else (none)) else (none)) = some r := by first | (rw [hji43] at H; exact H) | (simp only [hji43] at H ⊢; exact H)
            (try rw [hji43] at A42)
            have hji43w : (IntKind.i64.wrap (x4_1 + 3)) = ji43 := (i64_w _).trans hji43
            by_cases c44 : 0 ≤ (ji43)
            ·rw [if_pos c44] at H
             have c44b0 : decide (0 ≤ (ji43)) = true := decide_eq_true c44
             clear c44
             by_cases c45 : (ji43) < (a0.size : Int)
             ·rw [if_pos c45] at H
              have c45b0 : decide ((ji43) < (a0.size : Int)) = true := decide_eq_true c45
              clear c45
              replace H := Option.bind_eq_some_iff.mp H
              obtain ⟨t224, A470, H⟩ := H
              replace H : (if x3_1.length < 140737488355328 then (moultref1_unquoted.l0 kj12 a0 (x3_1 ++ [(wrap64 ((wrap64 (16 * t223)) + t224)) % 256]) (wrap64 ((ji43) + 1))) else (none)) = some r := H
              have A47 := Aside0.mk A470
              clear A470
              by_cases c48 : x3_1.length < 140737488355328
              ·rw [if_pos c48] at H
               have LMc48 := Aside0.mk c48
               clear c48
               obtain ⟨y225, hy225⟩ : ∃ y_ : List Int, y_ = (x3_1 ++ [(wrap64 ((wrap64 (16 * t223)) + t224)) % 256]) := ⟨_, rfl⟩
               replace H : (moultref1_unquoted.l0 kj12 a0 y225 (wrap64 ((ji43) + 1))) = some r := by first | (rw [hy225]; with_reducible exact H) | (have H2_ := (Option.bind_some _ _).symm.trans H; rw [hy225]; with_reducible exact H2_) | (have H2_ := (Option.bind_some _ _).symm.trans H; with_reducible exact H2_) | with_reducible exact H | (rw [hy225]; exact H) | exact H
               have Ny225 := Aside0.mk hy225
               clear hy225
               have H' := Aside0.mk H
               clear H
               try go_wp2
               have n0_ := Aside0.mk (Kd.R_drew HO_3.out)
               have n1_ := Aside0.mk (below_drew1 HB.out)
               clear HO_3
               clear HB
               have HO_3 := n0_
               have HB := n1_
               clear n0_ n1_
               have p41 : 0 ≤ ((ji38) : Int) := of_decide_eq_true (by first | (with_reducible assumption) | assumption)
               have q41 : (ji38) < (a0.size : Int) := of_decide_eq_true (by first | (with_reducible assumption) | assumption)
               have hx41 := bt_at a0 (ji38)
               replace p41 := eq_true p41
               replace q41 := eq_true q41
               have p46 : 0 ≤ ((ji43) : Int) := of_decide_eq_true (by first | (with_reducible assumption) | assumption)
               have q46 : (ji43) < (a0.size : Int) := of_decide_eq_true (by first | (with_reducible assumption) | assumption)
               have hx46 := bt_at a0 (ji43)
               replace p46 := eq_true p46
               replace q46 := eq_true q46
               refine start_ (n := 17) (S := fun w' => True) (ds := []) #[false, false, false, false, false, false, false, false, false, false, false, false, false, false, false, false, false] (by kernel_rfl) rfl rfl trivial (fun hHeld => ?_); refine with_tabW moultref1_unquoted.tab10 moultref1_unquoted.bits10 (fun HT_ HW_ => ?_)
               generalize wc.drew = w49 at HO_3 HB hHeld ⊢
               refine pure_ (i := 0) (N := some 65) (v := ?_) (a' := ?_) #[true, false, false, false, false, false, false, false, false, false, false, false, false, false, false, false, false] rfl rfl (any_of HT_.out (by kernel_rfl)) (fun _ _ _ h => h) (Or.inl ⟨by rfl, ?_⟩) ?_ ?_
               rotate_left
               ·intro w'
                go_simp
                with_reducible rfl
               rotate_left
               ·simp only [Act.put, List.setIfInBounds_toArray, List.set_cons_zero, List.set_cons_succ, i64_w, i32_w]
                rfl
               refine pure_ (i := 1) (N := some 66) (v := ?_) (a' := ?_) #[true, true, false, false, false, false, false, false, false, false, false, false, false, false, false, false, false] rfl rfl (any_of HT_.out (by kernel_rfl)) (fun _ _ _ h => h) (Or.inl ⟨by rfl, ?_⟩) ?_ ?_
               rotate_left
               ·intro w'
                go_simp
                with_reducible rfl
               rotate_left
               ·simp only [Act.put, List.setIfInBounds_toArray, List.set_cons_zero, List.set_cons_succ, i64_w, i32_w]
                rfl
               refine pure_ (i := 2) (N := some 67) (v := ?_) (a' := ?_) #[true, true, true, false, false, false, false, false, false, false, false, false, false, false, false, false, false] rfl rfl (any_of HT_.out (by kernel_rfl)) (fun _ _ _ h => h) (Or.inl ⟨by rfl, ?_⟩) ?_ ?_
               rotate_left
               ·intro w'
                go_simp
                with_reducible rfl
               rotate_left
               ·simp only [Act.put, List.setIfInBounds_toArray, List.set_cons_zero, List.set_cons_succ, i64_w, i32_w]
                rfl
               refine pure_ (i := 3) (N := some 68) (v := ?_) (a' := ?_) #[true, true, true, true, false, false, false, false, false, false, false, false, false, false, false, false, false] rfl rfl (any_of HT_.out (by kernel_rfl)) (fun _ _ _ h => h) (Or.inl ⟨by rfl, ?_⟩) ?_ ?_
               rotate_left
               ·intro w'
                go_simp
                with_reducible rfl
               rotate_left
               ·simp only [Act.put, List.setIfInBounds_toArray, List.set_cons_zero, List.set_cons_succ, i64_w, i32_w]
                rfl
               refine pure_ (i := 7) (N := some 72) (v := ?_) (a' := ?_) #[true, true, true, true, false, false, false, true, false, false, false, false, false, false, false, false, false] rfl rfl (any_of HT_.out (by kernel_rfl)) (fun _ _ _ h => h) (Or.inl ⟨by rfl, ?_⟩) ?_ ?_
               rotate_left
               ·intro w'
                go_simp
                with_reducible rfl
               rotate_left
               ·simp only [Act.put, List.setIfInBounds_toArray, List.set_cons_zero, List.set_cons_succ, i64_w, i32_w]
                rfl
               refine pure_ (i := 8) (N := some 73) (v := ?_) (a' := ?_) #[true, true, true, true, false, false, false, true, true, false, false, false, false, false, false, false, false] rfl rfl (any_of HT_.out (by kernel_rfl)) (fun _ _ _ h => h) (Or.inl ⟨by rfl, ?_⟩) ?_ ?_
               rotate_left
               ·intro w'
                go_simp
                with_reducible rfl
               rotate_left
               ·simp only [Act.put, List.setIfInBounds_toArray, List.set_cons_zero, List.set_cons_succ, i64_w, i32_w]
                rfl
               refine pure_ (i := 9) (N := some 74) (v := ?_) (a' := ?_) #[true, true, true, true, false, false, false, true, true, true, false, false, false, false, false, false, false] rfl rfl (any_of HT_.out (by kernel_rfl)) (fun _ _ _ h => h) (Or.inl ⟨by rfl, ?_⟩) ?_ ?_
               rotate_left
               ·intro w'
                go_simp
                with_reducible rfl
               rotate_left
               ·simp only [Act.put, List.setIfInBounds_toArray, List.set_cons_zero, List.set_cons_succ, i64_w, i32_w]
                rfl
               refine take_ (i := 4) (N := some 69) (v := ?_) (a' := ?_) #[true, true, true, true, true, false, false, true, true, true, false, false, false, false, false, false, false] rfl rfl (take_ofW HT_.out HW_.out (by kernel_rfl)) (fun _ _ _ h => h) (Or.inl ⟨by rfl, ?_⟩) hHeld ?_ ?_
               rotate_left
               ·intro w' _
                go_simp
                with_reducible rfl
               rotate_left
               ·simp only [Act.put, List.setIfInBounds_toArray, List.set_cons_zero, List.set_cons_succ, i64_w, i32_w]
                rfl
               refine take_ (i := 10) (N := some 75) (v := ?_) (a' := ?_) #[true, true, true, true, true, false, false, true, true, true, true, false, false, false, false, false, false] rfl rfl (take_ofW HT_.out HW_.out (by kernel_rfl)) (fun _ _ _ h => h) (Or.inl ⟨by rfl, ?_⟩) hHeld ?_ ?_
               rotate_left
               ·intro w' _
                go_simp
                with_reducible rfl
               rotate_left
               ·simp only [Act.put, List.setIfInBounds_toArray, List.set_cons_zero, List.set_cons_succ, i64_w, i32_w]
                rfl
               refine one_ (i := 5) (N := some 70) #[true, true, true, true, true, true, false, true, true, true, true, false, false, false, false, false, false] rfl rfl (one_of HT_.out (by kernel_rfl)) (by decide) (fun K hK => ?_)
               refine goes_ Tryd.func42 (by kernel_rfl) rfl #[.int .u8 (bt a0 (ji38))] (by rfl) rfl rfl (by (try simp only [List.map_toArray, List.map_cons, List.map_nil]); first | done | (simp only [hji38]; rfl) | rfl | (simp only [List.length_drop, List.length_take]; rfl)) ?_
               with_reducible refine (moultref1_hex.calls kj12 (bt a0 (ji38)) t223 _ A42.out).mono ?_
               rintro e w' ⟨rfl, ⟨nd, rfl⟩⟩
               refine ⟨_, rfl, ?_⟩
               refine hK.out _ _ trivial (fun hHeld => ?_)
               clear hK K
               refine norm_ (a' := ?_) ?_ ?_
               rotate_left
               ·show Act.put _ (some 70) _ = _
                simp only [Act.put, List.setIfInBounds_toArray, List.set_cons_zero, List.set_cons_succ, i64_w, i32_w]
                rfl
               refine pure_ (i := 6) (N := some 71) (v := ?_) (a' := ?_) #[true, true, true, true, true, true, true, true, true, true, true, false, false, false, false, false, false] rfl rfl (any_of HT_.out (by kernel_rfl)) (fun _ _ _ h => h) (Or.inl ⟨by rfl, ?_⟩) ?_ ?_
               rotate_left
               ·intro w'
                go_simp
                with_reducible rfl
               rotate_left
               ·simp only [Act.put, List.setIfInBounds_toArray, List.set_cons_zero, List.set_cons_succ, i64_w, i32_w]
                rfl
               refine one_ (i := 11) (N := some 76) #[true, true, true, true, true, true, true, true, true, true, true, true, false, false, false, false, false] rfl rfl (one_of HT_.out (by kernel_rfl)) (by decide) (fun K hK => ?_)
               refine goes_ Tryd.func42 (by kernel_rfl) rfl #[.int .u8 (bt a0 (ji43))] (by rfl) rfl rfl (by (try simp only [List.map_toArray, List.map_cons, List.map_nil]); first | done | (simp only [hji43]; rfl) | rfl | (simp only [List.length_drop, List.length_take]; rfl)) ?_
               with_reducible refine (moultref1_hex.calls kj12 (bt a0 (ji43)) t224 _ A47.out).mono ?_
               rintro e w' ⟨rfl, ⟨nd, rfl⟩⟩
               refine ⟨_, rfl, ?_⟩
               refine hK.out _ _ trivial (fun hHeld => ?_)
               clear hK K
               refine norm_ (a' := ?_) ?_ ?_
               rotate_left
               ·show Act.put _ (some 76) _ = _
                simp only [Act.put, List.setIfInBounds_toArray, List.set_cons_zero, List.set_cons_succ, i64_w, i32_w]
                rfl
               refine pure_ (i := 12) (N := some 77) (v := ?_) (a' := ?_) #[true, true, true, true, true, true, true, true, true, true, true, true, true, false, false, false, false] rfl rfl (any_of HT_.out (by kernel_rfl)) (fun _ _ _ h => h) (Or.inl ⟨by rfl, ?_⟩) ?_ ?_
               rotate_left
               ·intro w'
                go_simp
                with_reducible rfl
               rotate_left
               ·simp only [Act.put, List.setIfInBounds_toArray, List.set_cons_zero, List.set_cons_succ, i64_w, i32_w]
                rfl
               refine pure_ (i := 13) (N := some 78) (v := ?_) (a' := ?_) #[true, true, true, true, true, true, true, true, true, true, true, true, true, true, false, false, false] rfl rfl (any_of HT_.out (by kernel_rfl)) (fun _ _ _ h => h) (Or.inl ⟨by rfl, ?_⟩) ?_ ?_
               rotate_left
               ·intro w'
                go_simp
                with_reducible rfl
               rotate_left
               ·simp only [Act.put, List.setIfInBounds_toArray, List.set_cons_zero, List.set_cons_succ, i64_w, i32_w]
                rfl
               refine one_ (i := 14) (N := some 79) #[true, true, true, true, true, true, true, true, true, true, true, true, true, true, true, false, false] rfl rfl (one_of HT_.out (by kernel_rfl)) (by decide) (fun K hK => ?_)
               refine value_ (w1 := ?_) (v := ?_) (by rfl) rfl ?_ ?_
               rotate_left 2
               ·go_simp
                constructor
                ·rfl
                ·rfl
               refine hK.out _ _ trivial (fun hHeld => ?_)
               clear hK K
               refine norm_ (a' := ?_) ?_ ?_
               rotate_left
               ·show Act.put _ (some 79) _ = _
                simp only [Act.put, List.setIfInBounds_toArray, List.set_cons_zero, List.set_cons_succ, i64_w, i32_w]
                rfl
               refine one_ (i := 15) (N := some 80) #[true, true, true, true, true, true, true, true, true, true, true, true, true, true, true, true, false] rfl rfl (one_of HT_.out (by kernel_rfl)) (by decide) (fun K hK => ?_)
               refine Kd.R_append_step (Kd.int .u8) (w0 := w) w.heap.size (by rfl) (.tmp 65) (.tmp 79) 52 5 (.int .u8 0) 1 rfl Tryd.underlying52 info5 rfl (by decide) (by omega) u3 x3_1 ((wrap64 ((wrap64 (16 * t223)) + t224)) % 256) [.int .u8 ((wrap64 ((wrap64 (16 * t223)) + t224)) % 256)] (fun _ => True) (fun _ => False) rfl rfl ?aP (fun _ hk => hk.elim) ?aF ?aO ?aB ?aS ?aL ?_
               (case aP => exact rfl)
               (case aB => exact (by repeat (first | (with_reducible first | exact HB.out | apply below_alloc | apply pw_below_drewN | apply below_drew1) | exact HB.out)))
               (case aF => exact (fun _ _ => trivial))
               (case aO => exact (by (with_reducible repeat (first | apply Kd.R_alloc | apply Kd.R_drewN | apply Kd.R_drew)); exact HO_3.out))
               (case aS => exact (below_size (by repeat (first | (with_reducible first | exact HB.out | apply below_alloc | apply pw_below_drewN | apply below_drew1) | exact HB.out))))
               (case aL => have := LMc48.out; omega)
               intro v226 w50 ho hb hg hat
               rw [← Ny225.out] at ho
               have n0_ := Aside0.mk (hb)
               have n1_ := Aside0.mk (ho)
               clear HB
               clear HO_3
               have HB := n0_
               have HO227 := n1_
               clear n0_ n1_
               clear ho hb hg hat
               refine hK.out _ _ trivial (fun hHeld => ?_)
               clear hK K
               refine norm_ (a' := ?_) ?_ ?_
               rotate_left
               ·show Act.put _ (some 80) _ = _
                simp only [Act.put, List.setIfInBounds_toArray, List.set_cons_zero, List.set_cons_succ, i64_w, i32_w]
                rfl
               refine pure_ (i := 16) (N := some 3) (v := ?_) (a' := ?_) #[true, true, true, true, true, true, true, true, true, true, true, true, true, true, true, true, true] rfl rfl (any_of HT_.out (by kernel_rfl)) (fun _ _ _ h => h) (Or.inl ⟨by rfl, ?_⟩) ?_ ?_
               rotate_left
               ·intro w'
                go_simp
                with_reducible rfl
               rotate_left
               ·simp only [Act.put, List.setIfInBounds_toArray, List.set_cons_zero, List.set_cons_succ, i64_w, i32_w]
                rfl
               refine done_ (done_of HT_.out (by kernel_rfl)) ?_
               try go_wp2
               go_roundg kj12
               case measure => have := HK1.out; have := HJ2.out; have := HJ12.out; omega
               case rel => exact ⟨(y225), (wrap64 ((ji43) + 1)), (by first | rfl | (simp; done) | (simp only [← hji43] <;> (first | rfl | simp)) | (simp [*]; done)), H', ⟨by have := HK1.out; have := HJ2.out; have := HJ12.out; omega⟩, ⟨by (with_reducible repeat (first | apply Kd.R_alloc | apply Kd.R_drewN | apply Kd.R_drew)); exact HO227.out⟩, ⟨by repeat (first | (with_reducible first | exact HB.out | apply below_alloc | apply pw_below_drewN | apply below_drew1) | exact HB.out)⟩⟩
              ·rw [if_neg c48] at H
               exact absurd H (by simp)
             ·rw [if_neg c45] at H
              exact absurd H (by simp)
            ·rw [if_neg c44] at H
             exact absurd H (by simp)
           ·rw [if_neg c40] at H
            exact absurd H (by simp)
          ·rw [if_neg c39] at H
           exact absurd H (by simp)
   ·rw [if_neg c2] at H
    have c2b0 : decide (x4_1 < (a0.size : Int)) = false := decide_eq_false c2
    clear c2
    obtain rfl := Option.some.inj H
    have hcv51 := own_string (P := Tryd.prog) Tryd.underlying52 Tryd.underlying5 Tryd.underlying9 (Kd.own_of_R HO_3.out)
    go_wp2
    go_ret
    exact ⟨by first | rfl | (simp [errW_none, errW_some] <;> rfl) | (simp [*, errW_none, errW_some] <;> rfl), by repeat (first | (with_reducible first | exact HB.out | apply below_alloc | apply pw_below_drewN | apply below_drew1) | exact HB.out)⟩

end Go.Proofs.YtnedhbnbhedgeaaDoor.PAll
