-- Laid by ownprint.py (a program of the session, in wip/tools), out of the translation: Lean checks it.
import Derived.Test.YtnedhbnbhedgeaaDoorPAllx0
import Derived.Test.YtnedhbnbhedgeaaDoorPAllx1
import Derived.Test.YtnedhbnbhedgeaaDoorPAllx2
import Derived.Test.YtnedhbnbhedgeaaDoorPAllx3
import Derived.Test.YtnedhbnbhedgeaaDoorPAllx5
import Derived.Test.YtnedhbnbhedgeaaDoorPAllx6
import Derived.Test.YtnedhbnbhedgeaaDoorPAllx7
import Derived.Test.YtnedhbnbhedgeaaDoorGa
namespace Go.Proofs.YtnedhbnbhedgeaaDoor.PAll
open Go.RowKit Go.Proofs.YtnedhbnbhedgeaaDoorW.PrintWords Go.Proofs.YtnedhbnbhedgeaaDoorW.PrintLast Go.Proofs.YtnedhbnbhedgeaaDoorW.PrintMore
attribute [local go_sem] max2_int min2_int max_two min_two max_three min_three max_four min_four   -- for this text's walks alone
set_option linter.unusedVariables false
set_option linter.unusedSimpArgs false

attribute [local go_sem high] eqA23
/-! ### moultref1_Read: function 16 -/
mutual
def moultref1_Read.j0 : Nat → ByteArray → List (S23) → Bool → Option (Int × Int × ByteArray × Int)
 | 0, _, _, _ => none
 | k + 1, x0, x4, x17 => if x17 = true then ((moultref1_number.f k x0).bind fun t232 => ((moultref1_number.f k x0).bind fun t233 => ((moultref1_number.f k x0).bind fun t234 => ((some (([(⟨4, t232, (⟨#[]⟩ : ByteArray)⟩ : S23), (⟨3, t233, (⟨#[]⟩ : ByteArray)⟩ : S23), (⟨2, t234, (⟨#[]⟩ : ByteArray)⟩ : S23)] : List (S23)) : List (S23))).bind fun y235 => (if x4.length + y235.length < 4398046511104 then (moultref1_Read.j1 k x0 (x4 ++ y235)) else (none)))))) else (moultref1_Read.j1 k x0 x4)
def moultref1_Read.j1 : Nat → ByteArray → List (S23) → Option (Int × Int × ByteArray × Int)
 | 0, _, _ => none
 | k + 1, x0, x4 => if (x0.size : Int) ≥ 2 then (if 1 ≤ (wrap64 ((x0.size : Int) - 1)) then (if (wrap64 ((x0.size : Int) - 1)) ≤ (x0.size : Int) then ((moultref1_unquoted.f k (x0.extract 1 ((wrap64 ((x0.size : Int) - 1)) : Int).toNat)).bind fun t241 => ((some (([(⟨5, 0, t241⟩ : S23), (⟨6, 0, t241⟩ : S23)] : List (S23)) : List (S23))).bind fun y242 => (if x4.length + y242.length < 4398046511104 then (moultref1_Read.j2 k x0 (x4 ++ y242)) else (none)))) else (none)) else (none)) else (moultref1_Read.j2 k x0 x4)
def moultref1_Read.j2 : Nat → ByteArray → List (S23) → Option (Int × Int × ByteArray × Int)
 | 0, _, _ => none
 | k + 1, x0, x4 => moultref1_Read.l0 k x0 x4 0
def moultref1_Read.l0 : Nat → ByteArray → List (S23) → Int → Option (Int × Int × ByteArray × Int)
 | 0, _, _, _ => none
 | k + 1, x0, x4, x6 => if x6 < (x4.length : Int) then (if x0.toList = ([] : List UInt8) then (moultref1_Read.l0 k x0 x4 (wrap64 (x6 + 1))) else (if 0 ≤ x6 then ((moultref1_Print.f k ((rd_T23 x4 x6).f0) ((rd_T23 x4 x6).f1) ((rd_T23 x4 x6).f2)).bind fun t249 => (if t249.toList = x0.toList then (some ((rd_T23 x4 x6).f0, (rd_T23 x4 x6).f1, (rd_T23 x4 x6).f2, 0)) else (moultref1_Read.l0 k x0 x4 (wrap64 (x6 + 1))))) else (none))) else (some (0, 0, (⟨#[]⟩ : ByteArray), 8))
end
def moultref1_Read.f (k : Nat) (a0 : ByteArray) : Option (Int × Int × ByteArray × Int) := (some (([(⟨1, 0, (⟨#[]⟩ : ByteArray)⟩ : S23), (⟨1, 1, (⟨#[]⟩ : ByteArray)⟩ : S23)] : List (S23)) : List (S23))).bind fun y229 => (if (a0.size : Int) > 0 then (moultref1_Read.j0 k a0 y229 (decide ((a0.size : Int) < 24))) else (moultref1_Read.j0 k a0 y229 false))
theorem moultref1_Read.mono_l : ∀ k, (∀ y0 y1 y2, LeO (moultref1_Read.j0 k y0 y1 y2) (moultref1_Read.j0 (k + 1) y0 y1 y2)) ∧ (∀ y0 y1, LeO (moultref1_Read.j1 k y0 y1) (moultref1_Read.j1 (k + 1) y0 y1)) ∧ (∀ y0 y1, LeO (moultref1_Read.j2 k y0 y1) (moultref1_Read.j2 (k + 1) y0 y1)) ∧ (∀ y0 y1 y2, LeO (moultref1_Read.l0 k y0 y1 y2) (moultref1_Read.l0 (k + 1) y0 y1 y2))
 | 0 => ⟨fun _ _ _ r h => by simp [moultref1_Read.j0] at h, fun _ _ r h => by simp [moultref1_Read.j1] at h, fun _ _ r h => by simp [moultref1_Read.j2] at h, fun _ _ _ r h => by simp [moultref1_Read.l0] at h⟩
 | k + 1 => by
  obtain ⟨ih0, ih1, ih2, ih3⟩ := moultref1_Read.mono_l k
  refine ⟨?_, ?_, ?_, ?_⟩
  ·intro y0 y1 y2
   unfold moultref1_Read.j0
   repeat' first
   | (with_reducible exact ih0 _ _ _)
   | (with_reducible exact ih1 _ _)
   | (with_reducible exact ih2 _ _)
   | (with_reducible exact ih3 _ _ _)
   | (with_reducible exact moultref1_Print.mono _ _ _ _)
   | (with_reducible exact moultref1_number.mono _ _)
   | (with_reducible exact moultref1_unquoted.mono _ _)
   | (with_reducible exact LeO.refl _)
   | (with_reducible exact LeO.none _)
   | (with_reducible refine LeO.ite ?_ ?_)
   | (with_reducible refine LeO.bind ?_ (fun _ => ?_))
   | exact ih0 _ _ _
   | exact ih1 _ _
   | exact ih2 _ _
   | exact ih3 _ _ _
   | exact moultref1_Print.mono _ _ _ _
   | exact moultref1_number.mono _ _
   | exact moultref1_unquoted.mono _ _
   | exact LeO.none _
   | refine LeO.ite ?_ ?_
   | refine LeO.bind ?_ (fun _ => ?_)
  ·intro y0 y1
   unfold moultref1_Read.j1
   repeat' first
   | (with_reducible exact ih0 _ _ _)
   | (with_reducible exact ih1 _ _)
   | (with_reducible exact ih2 _ _)
   | (with_reducible exact ih3 _ _ _)
   | (with_reducible exact moultref1_Print.mono _ _ _ _)
   | (with_reducible exact moultref1_number.mono _ _)
   | (with_reducible exact moultref1_unquoted.mono _ _)
   | (with_reducible exact LeO.refl _)
   | (with_reducible exact LeO.none _)
   | (with_reducible refine LeO.ite ?_ ?_)
   | (with_reducible refine LeO.bind ?_ (fun _ => ?_))
   | exact ih0 _ _ _
   | exact ih1 _ _
   | exact ih2 _ _
   | exact ih3 _ _ _
   | exact moultref1_Print.mono _ _ _ _
   | exact moultref1_number.mono _ _
   | exact moultref1_unquoted.mono _ _
   | exact LeO.none _
   | refine LeO.ite ?_ ?_
   | refine LeO.bind ?_ (fun _ => ?_)
  ·intro y0 y1
   unfold moultref1_Read.j2
   repeat' first
   | (with_reducible exact ih0 _ _ _)
   | (with_reducible exact ih1 _ _)
   | (with_reducible exact ih2 _ _)
   | (with_reducible exact ih3 _ _ _)
   | (with_reducible exact moultref1_Print.mono _ _ _ _)
   | (with_reducible exact moultref1_number.mono _ _)
   | (with_reducible exact moultref1_unquoted.mono _ _)
   | (with_reducible exact LeO.refl _)
   | (with_reducible exact LeO.none _)
   | (with_reducible refine LeO.ite ?_ ?_)
   | (with_reducible refine LeO.bind ?_ (fun _ => ?_))
   | exact ih0 _ _ _
   | exact ih1 _ _
   | exact ih2 _ _
   | exact ih3 _ _ _
   | exact moultref1_Print.mono _ _ _ _
   | exact moultref1_number.mono _ _
   | exact moultref1_unquoted.mono _ _
   | exact LeO.none _
   | refine LeO.ite ?_ ?_
   | refine LeO.bind ?_ (fun _ => ?_)
  ·intro y0 y1 y2
   unfold moultref1_Read.l0
   repeat' first
   | (with_reducible exact ih0 _ _ _)
   | (with_reducible exact ih1 _ _)
   | (with_reducible exact ih2 _ _)
   | (with_reducible exact ih3 _ _ _)
   | (with_reducible exact moultref1_Print.mono _ _ _ _)
   | (with_reducible exact moultref1_number.mono _ _)
   | (with_reducible exact moultref1_unquoted.mono _ _)
   | (with_reducible exact LeO.refl _)
   | (with_reducible exact LeO.none _)
   | (with_reducible refine LeO.ite ?_ ?_)
   | (with_reducible refine LeO.bind ?_ (fun _ => ?_))
   | exact ih0 _ _ _
   | exact ih1 _ _
   | exact ih2 _ _
   | exact ih3 _ _ _
   | exact moultref1_Print.mono _ _ _ _
   | exact moultref1_number.mono _ _
   | exact moultref1_unquoted.mono _ _
   | exact LeO.none _
   | refine LeO.ite ?_ ?_
   | refine LeO.bind ?_ (fun _ => ?_)
theorem moultref1_Read.mono : ∀ a0 k, LeO (moultref1_Read.f k a0) (moultref1_Read.f (k + 1) a0) := by
 intro a0 k
 obtain ⟨ih0, ih1, ih2, ih3⟩ := moultref1_Read.mono_l k
 unfold moultref1_Read.f
 repeat' first
   | (with_reducible exact ih0 _ _ _)
   | (with_reducible exact ih1 _ _)
   | (with_reducible exact ih2 _ _)
   | (with_reducible exact ih3 _ _ _)
   | (with_reducible exact moultref1_Print.mono _ _ _ _)
   | (with_reducible exact moultref1_number.mono _ _)
   | (with_reducible exact moultref1_unquoted.mono _ _)
   | (with_reducible exact LeO.refl _)
   | (with_reducible exact LeO.none _)
   | (with_reducible refine LeO.ite ?_ ?_)
   | (with_reducible refine LeO.bind ?_ (fun _ => ?_))
   | exact ih0 _ _ _
   | exact ih1 _ _
   | exact ih2 _ _
   | exact ih3 _ _ _
   | exact moultref1_Print.mono _ _ _ _
   | exact moultref1_number.mono _ _
   | exact moultref1_unquoted.mono _ _
   | exact LeO.none _
   | refine LeO.ite ?_ ?_
   | refine LeO.bind ?_ (fun _ => ?_)
set_option maxHeartbeats 8000000 in
set_option maxRecDepth 100000 in
theorem moultref1_Read.calls (k : Nat) (a0 : ByteArray) (r1 : Int) (r2 : Int) (r3 : ByteArray) (r4 : Int) (w : World) (h : moultref1_Read.f k a0 = some (r1, r2, r3, r4)) :
  Calls Tryd.prog 16 #[.string a0] w fun e w' => e = .returned (.tuple #[.agg #[.int .i64 r1, .int .i64 r2, .string r3], .int .i64 r4]) ∧ Below w.heap.size w w' := by
 have hu23 := Tryd.underlying23
 have HB := Aside0.mk (Below.refl w.heap.size w)
 have H : ((some (([(⟨1, 0, (⟨#[]⟩ : ByteArray)⟩ : S23), (⟨1, 1, (⟨#[]⟩ : ByteArray)⟩ : S23)] : List (S23)) : List (S23))).bind fun y229 => (if (a0.size : Int) > 0 then (moultref1_Read.j0 k a0 y229 (decide ((a0.size : Int) < 24))) else (moultref1_Read.j0 k a0 y229 false))) = some (r1, r2, r3, r4) := h
 clear h
 obtain ⟨y229, hy229⟩ : ∃ y_ : List (S23), y_ = (([(⟨1, 0, (⟨#[]⟩ : ByteArray)⟩ : S23), (⟨1, 1, (⟨#[]⟩ : ByteArray)⟩ : S23)] : List (S23))) := ⟨_, rfl⟩
 replace H : (if (a0.size : Int) > 0 then (moultref1_Read.j0 k a0 y229 (decide ((a0.size : Int) < 24))) else (moultref1_Read.j0 k a0 y229 false)) = some (r1, r2, r3, r4) := by first | (rw [hy229]; with_reducible exact H) | (have H2_ := (Option.bind_some _ _).symm.trans H; rw [hy229]; with_reducible exact H2_) | (have H2_ := (Option.bind_some _ _).symm.trans H; with_reducible exact H2_) | with_reducible exact H | (rw [hy229]; exact H) | exact H
 have Ny229 := Aside0.mk hy229
 clear hy229
 have HC2 := Aside0.mk H
 clear H
 go_enter Tryd.func16, Tryd.ntmps16
 go_upto_region 2 with (first | ((with_reducible refine gate_dst (N := 2) rfl ?_); (try (refine gate_guard (by rfl) ?_; dsimp only)); refine box_event ?hg (N := 2) ?hd (cs := #[.int .i64 0, .int .i64 0, .string (⟨#[]⟩ : ByteArray)]) (t := 23) ?hr ?_; (case hd => rfl); (case hg => rfl); (case hr => first | (go_simp; done) | (go_simp; rfl)); intro gb228 hg w3 hbox hb; have n0_ := Aside0.mk (below_step (by repeat (first | (with_reducible first | exact HB.out | apply below_alloc | apply pw_below_drewN | apply below_drew1) | exact HB.out)) hb); have n1_ := Aside0.mk (hbox); have n2_ := Aside0.mk ((by rw [hg]; exact (below_size (by repeat (first | (with_reducible first | exact HB.out | apply below_alloc | apply pw_below_drewN | apply below_drew1) | exact HB.out))) : w.heap.size ≤ gb228)); have n3_ := Aside0.mk ((by rw [hg]; exact (below_size (by repeat (first | (with_reducible first | exact HB.out | apply below_alloc | apply pw_below_drewN | apply below_drew1) | exact HB.out))) : w.heap.size ≤ gb228)); clear HB; have HB := n0_; have BK228 := n1_; have GW228 := n2_; have GE228 := n3_; clear n0_ n1_ n2_ n3_; clear hb hbox hg) | ((with_reducible refine gate_dst (N := 9) rfl ?_); (try (refine gate_guard (by rfl) ?_; dsimp only)); refine Kd.R_lit k23 _ 23 ?hg (N := 9) ?hd (xs := ([(⟨1, 0, (⟨#[]⟩ : ByteArray)⟩ : S23), (⟨1, 1, (⟨#[]⟩ : ByteArray)⟩ : S23)] : List (S23))) (inner := [.int .i64 1, .int .i64 0, .string (⟨#[]⟩ : ByteArray), .int .i64 1, .int .i64 1, .string (⟨#[]⟩ : ByteArray)]) (ok := fun _ => True) (okp := fun _ => True) ?hr ?hp (fun _ hk => hk) trivial (Below.refl _ _) (Nat.le_refl _) (by simp) ?_; (case hd => rfl); (case hg => rfl); (case hr => first | (go_simp; done) | (go_simp; rfl)); (case hp => exact (Reps.c3 (show Kd.M k23 _ _ _ (⟨1, 0, (⟨#[]⟩ : ByteArray)⟩ : S23) [.int .i64 1, .int .i64 0, .string (⟨#[]⟩ : ByteArray)] from (k23_mkM _ _ _ (⟨1, 0, (⟨#[]⟩ : ByteArray)⟩ : S23) )) (Reps.c3 (show Kd.M k23 _ _ _ (⟨1, 1, (⟨#[]⟩ : ByteArray)⟩ : S23) [.int .i64 1, .int .i64 1, .string (⟨#[]⟩ : ByteArray)] from (k23_mkM _ _ _ (⟨1, 1, (⟨#[]⟩ : ByteArray)⟩ : S23) )) (Reps.none _ _)))); intro v230 w4 ho5 hb hg_ hnew_; clear hg_ hnew_; (first | rw [← Ny229.out] at ho5 | (simp only [Int.reduceToNat] at ho5; rw [← Ny229.out] at ho5)); have n0_ := Aside0.mk (Kd.R_lower (Kd.R_newB ho5 (g := gb228) (o := .cells #[.int .i64 0, .int .i64 0, .string (⟨#[]⟩ : ByteArray)] 23 (0, 0)) (by (with_reducible repeat (first | refine blk_drewN ?_ _ | refine blk_drew ?_ | refine blk_alloc ?_ _)); exact BK228.out)) (below_size (by repeat (first | (with_reducible first | exact HB.out | apply below_alloc | apply pw_below_drewN | apply below_drew1 | refine below_set ?_ GE228.out) | exact HB.out)))); have n1_ := Aside0.mk (blk_below (g := gb228) (o := .cells #[.int .i64 0, .int .i64 0, .string (⟨#[]⟩ : ByteArray)] 23 (0, 0)) (by (with_reducible repeat (first | refine blk_drewN ?_ _ | refine blk_drew ?_ | refine blk_alloc ?_ _)); exact BK228.out) hb); have n2_ := Aside0.mk (below_step (by repeat (first | (with_reducible first | exact HB.out | apply below_alloc | apply pw_below_drewN | apply below_drew1 | refine below_set ?_ GE228.out) | exact HB.out)) hb); clear BK228; clear HB; have HO231 := n0_; have BK228 := n1_; have HB := n2_; clear n0_ n1_ n2_; clear hb ho5))
 (try simp only [Act.put, List.setIfInBounds_toArray, List.set_cons_zero, List.set_cons_succ])
 go_cut [17] (fun v17 wc => ∃ (kq : Nat) (x17_1 : Bool), v17 = .bool x17_1 ∧ Aside0 (moultref1_Read.j0 kq a0 y229 x17_1 = some (r1, r2, r3, r4)) ∧ Aside0 (kq ≤ k) ∧ Aside0 (Kd.R k23 23 wc w.heap.size (fun k_ => k_ ≠ gb228) v230 y229) ∧ Aside0 (wc.heap[gb228]? = some (.cells #[.int .i64 0, .int .i64 0, .string (⟨#[]⟩ : ByteArray)] 23 (0, 0))) ∧ Aside0 (Below w.heap.size w wc))
 case first =>
  have H := HC2.out
  clear HC2
  by_cases c6 : (a0.size : Int) > 0
  ·rw [if_pos c6] at H
   have c6b0 : decide (0 < (a0.size : Int)) = true := decide_eq_true c6
   have c6b1 : decide (0 < a0.size) = true := decide_eq_true (by omega)
   clear c6
   (first | rw [c6b0] | (simp only [i64_w, i32_w]; rw [c6b0]) | skip)
   have H' := Aside0.mk H
   clear H
   go_wp2
   go_meet
   case rel => exact ⟨_, (decide ((a0.size : Int) < 24)), (by first | rfl | (simp; done) | (simp [*]; done)), H', ⟨by first | omega | exact Nat.le_refl _⟩, ⟨by (with_reducible repeat (first | apply Kd.R_alloc | apply Kd.R_drewN | apply Kd.R_drew)); exact Kd.R_mono HO231.out (fun _ hk => hk.2)⟩, ⟨by (with_reducible repeat (first | refine blk_drewN ?_ _ | refine blk_drew ?_ | refine blk_alloc ?_ _)); exact BK228.out⟩, ⟨by repeat (first | (with_reducible first | exact HB.out | apply below_alloc | apply pw_below_drewN | apply below_drew1 | refine below_set ?_ GE228.out) | exact HB.out)⟩⟩
  ·rw [if_neg c6] at H
   have c6b0 : decide (0 < (a0.size : Int)) = false := decide_eq_false c6
   have c6b1 : decide (0 < a0.size) = false := decide_eq_false (by omega)
   clear c6
   (first | rw [c6b0] | (simp only [i64_w, i32_w]; rw [c6b0]) | skip)
   have H' := Aside0.mk H
   clear H
   go_wp2
   go_meet
   case rel => exact ⟨_, (false), (by first | rfl | (simp; done) | (simp [*]; done)), H', ⟨by first | omega | exact Nat.le_refl _⟩, ⟨by (with_reducible repeat (first | apply Kd.R_alloc | apply Kd.R_drewN | apply Kd.R_drew)); exact Kd.R_mono HO231.out (fun _ hk => hk.2)⟩, ⟨by (with_reducible repeat (first | refine blk_drewN ?_ _ | refine blk_drew ?_ | refine blk_alloc ?_ _)); exact BK228.out⟩, ⟨by repeat (first | (with_reducible first | exact HB.out | apply below_alloc | apply pw_below_drewN | apply below_drew1 | refine below_set ?_ GE228.out) | exact HB.out)⟩⟩
 case rest =>
  clear HC2
  try clear c1
  try clear p2
  try clear c3
  try clear c6
  try clear c6b0
  try clear c6b1
  obtain ⟨kq, x17_1, rfl, HA, HJ1, HO_4, BK228, HB⟩ := hcut
  cases kq with
  | zero => exact absurd HA.out (by simp [moultref1_Read.j0])
  | succ kj1 =>
   have H := HA.out
   clear HA
   simp only [moultref1_Read.j0] at H
   have HC7 := Aside0.mk H
   clear H
   go_upto_if 17 with (fail)
   go_cut [4] (fun v4 wc => ∃ (kq : Nat) (x4_6 : List (S23)), Aside0 (moultref1_Read.j1 kq a0 x4_6 = some (r1, r2, r3, r4)) ∧ Aside0 (kq ≤ kj1) ∧ Aside0 (Kd.R k23 23 wc w.heap.size (fun k_ => k_ ≠ gb228) v4 x4_6) ∧ Aside0 (wc.heap[gb228]? = some (.cells #[.int .i64 0, .int .i64 0, .string (⟨#[]⟩ : ByteArray)] 23 (0, 0))) ∧ Aside0 (Below w.heap.size w wc))
   case first =>
    have H := HC7.out
    clear HC7
    by_cases c8 : x17_1 = true
    ·subst c8
     have H1 : ((moultref1_number.f kj1 a0).bind fun t232 => ((moultref1_number.f kj1 a0).bind fun t233 => ((moultref1_number.f kj1 a0).bind fun t234 => ((some (([(⟨4, t232, (⟨#[]⟩ : ByteArray)⟩ : S23), (⟨3, t233, (⟨#[]⟩ : ByteArray)⟩ : S23), (⟨2, t234, (⟨#[]⟩ : ByteArray)⟩ : S23)] : List (S23)) : List (S23))).bind fun y235 => (if y229.length + y235.length < 4398046511104 then (moultref1_Read.j1 kj1 a0 (y229 ++ y235)) else (none)))))) = some (r1, r2, r3, r4) := by rw [if_pos rfl] at H; exact H
     clear H
     have H := H1
     clear H1
     replace H := Option.bind_eq_some_iff.mp H
     obtain ⟨t232, A90, H⟩ := H
     replace H : ((moultref1_number.f kj1 a0).bind fun t233 => ((moultref1_number.f kj1 a0).bind fun t234 => ((some (([(⟨4, t232, (⟨#[]⟩ : ByteArray)⟩ : S23), (⟨3, t233, (⟨#[]⟩ : ByteArray)⟩ : S23), (⟨2, t234, (⟨#[]⟩ : ByteArray)⟩ : S23)] : List (S23)) : List (S23))).bind fun y235 => (if y229.length + y235.length < 4398046511104 then (moultref1_Read.j1 kj1 a0 (y229 ++ y235)) else (none))))) = some (r1, r2, r3, r4) := H
     have A9 := Aside0.mk A90
     clear A90
     replace H := Option.bind_eq_some_iff.mp H
     obtain ⟨t233, A100, H⟩ := H
     replace H : ((moultref1_number.f kj1 a0).bind fun t234 => ((some (([(⟨4, t232, (⟨#[]⟩ : ByteArray)⟩ : S23), (⟨3, t233, (⟨#[]⟩ : ByteArray)⟩ : S23), (⟨2, t234, (⟨#[]⟩ : ByteArray)⟩ : S23)] : List (S23)) : List (S23))).bind fun y235 => (if y229.length + y235.length < 4398046511104 then (moultref1_Read.j1 kj1 a0 (y229 ++ y235)) else (none)))) = some (r1, r2, r3, r4) := H
     have A10 := Aside0.mk A100
     clear A100
     replace H := Option.bind_eq_some_iff.mp H
     obtain ⟨t234, A110, H⟩ := H
     replace H : ((some (([(⟨4, t232, (⟨#[]⟩ : ByteArray)⟩ : S23), (⟨3, t233, (⟨#[]⟩ : ByteArray)⟩ : S23), (⟨2, t234, (⟨#[]⟩ : ByteArray)⟩ : S23)] : List (S23)) : List (S23))).bind fun y235 => (if y229.length + y235.length < 4398046511104 then (moultref1_Read.j1 kj1 a0 (y229 ++ y235)) else (none))) = some (r1, r2, r3, r4) := H
     have A11 := Aside0.mk A110
     clear A110
     obtain ⟨y235, hy235⟩ : ∃ y_ : List (S23), y_ = (([(⟨4, t232, (⟨#[]⟩ : ByteArray)⟩ : S23), (⟨3, t233, (⟨#[]⟩ : ByteArray)⟩ : S23), (⟨2, t234, (⟨#[]⟩ : ByteArray)⟩ : S23)] : List (S23))) := ⟨_, rfl⟩
     replace H : (if y229.length + y235.length < 4398046511104 then (moultref1_Read.j1 kj1 a0 (y229 ++ y235)) else (none)) = some (r1, r2, r3, r4) := by first | (rw [hy235]; with_reducible exact H) | (have H2_ := (Option.bind_some _ _).symm.trans H; rw [hy235]; with_reducible exact H2_) | (have H2_ := (Option.bind_some _ _).symm.trans H; with_reducible exact H2_) | with_reducible exact H | (rw [hy235]; exact H) | exact H
     have Ny235 := Aside0.mk hy235
     clear hy235
     by_cases c12 : y229.length + y235.length < 4398046511104
     ·rw [if_pos c12] at H
      have LMc12 := Aside0.mk c12
      clear c12
      obtain ⟨y238, hy238⟩ : ∃ y_ : List (S23), y_ = (y229 ++ y235) := ⟨_, rfl⟩
      replace H : (moultref1_Read.j1 kj1 a0 y238) = some (r1, r2, r3, r4) := by first | (rw [hy238]; with_reducible exact H) | (have H2_ := (Option.bind_some _ _).symm.trans H; rw [hy238]; with_reducible exact H2_) | (have H2_ := (Option.bind_some _ _).symm.trans H; with_reducible exact H2_) | with_reducible exact H | (rw [hy238]; exact H) | exact H
      have Ny238 := Aside0.mk hy238
      clear hy238
      have H' := Aside0.mk H
      clear H
      go_wp2_with (first | ((with_reducible refine gate_callee (f := 29) rfl ?_); refine goesL_ (some 20) rfl rfl Tryd.func29 (by kernel_rfl) rfl #[.string a0] rfl (by (try simp only [List.map_toArray, List.map_cons, List.map_nil]); first | done | rfl | (simp only [List.length_drop, List.length_take]; rfl)) ?_; (with_reducible refine (moultref1_number.calls kj1 a0 t232 _ A9.out).mono ?_); rintro e w' ⟨rfl, ⟨nd, rfl⟩⟩; refine ⟨_, rfl, ?_⟩) | ((with_reducible refine gate_callee (f := 29) rfl ?_); refine goesL_ (some 23) rfl rfl Tryd.func29 (by kernel_rfl) rfl #[.string a0] rfl (by (try simp only [List.map_toArray, List.map_cons, List.map_nil]); first | done | rfl | (simp only [List.length_drop, List.length_take]; rfl)) ?_; (with_reducible refine (moultref1_number.calls kj1 a0 t233 _ A10.out).mono ?_); rintro e w' ⟨rfl, ⟨nd, rfl⟩⟩; refine ⟨_, rfl, ?_⟩) | ((with_reducible refine gate_callee (f := 29) rfl ?_); refine goesL_ (some 26) rfl rfl Tryd.func29 (by kernel_rfl) rfl #[.string a0] rfl (by (try simp only [List.map_toArray, List.map_cons, List.map_nil]); first | done | rfl | (simp only [List.length_drop, List.length_take]; rfl)) ?_; (with_reducible refine (moultref1_number.calls kj1 a0 t234 _ A11.out).mono ?_); rintro e w' ⟨rfl, ⟨nd, rfl⟩⟩; refine ⟨_, rfl, ?_⟩) | ((with_reducible refine gate_dst (N := 28) rfl ?_); (try (refine gate_guard (by rfl) ?_; dsimp only)); refine Kd.R_lit k23 _ 23 ?hg (N := 28) ?hd (xs := ([(⟨4, t232, (⟨#[]⟩ : ByteArray)⟩ : S23), (⟨3, t233, (⟨#[]⟩ : ByteArray)⟩ : S23), (⟨2, t234, (⟨#[]⟩ : ByteArray)⟩ : S23)] : List (S23))) (inner := [.int .i64 4, .int .i64 t232, .string (⟨#[]⟩ : ByteArray), .int .i64 3, .int .i64 t233, .string (⟨#[]⟩ : ByteArray), .int .i64 2, .int .i64 t234, .string (⟨#[]⟩ : ByteArray)]) (ok := fun _ => True) (okp := fun _ => True) ?hr ?hp (fun _ hk => hk) trivial (Below.refl _ _) (Nat.le_refl _) (by simp) ?_; (case hd => rfl); (case hg => rfl); (case hr => first | (go_simp; done) | (go_simp; rfl)); (case hp => exact (Reps.c3 (show Kd.M k23 _ _ _ (⟨4, t232, (⟨#[]⟩ : ByteArray)⟩ : S23) [.int .i64 4, .int .i64 t232, .string (⟨#[]⟩ : ByteArray)] from (k23_mkM _ _ _ (⟨4, t232, (⟨#[]⟩ : ByteArray)⟩ : S23) )) (Reps.c3 (show Kd.M k23 _ _ _ (⟨3, t233, (⟨#[]⟩ : ByteArray)⟩ : S23) [.int .i64 3, .int .i64 t233, .string (⟨#[]⟩ : ByteArray)] from (k23_mkM _ _ _ (⟨3, t233, (⟨#[]⟩ : ByteArray)⟩ : S23) )) (Reps.c3 (show Kd.M k23 _ _ _ (⟨2, t234, (⟨#[]⟩ : ByteArray)⟩ : S23) [.int .i64 2, .int .i64 t234, .string (⟨#[]⟩ : ByteArray)] from (k23_mkM _ _ _ (⟨2, t234, (⟨#[]⟩ : ByteArray)⟩ : S23) )) (Reps.none _ _))))); intro v236 w13 ho14 hb hg_ hnew_; clear hg_ hnew_; (first | rw [← Ny235.out] at ho14 | (simp only [Int.reduceToNat] at ho14; rw [← Ny235.out] at ho14)); have n0_ := Aside0.mk (Kd.R_elder' (by (with_reducible repeat (first | apply Kd.R_alloc | apply Kd.R_drewN | apply Kd.R_drew)); exact HO_4.out) (Kd.R_base ho14) hb); have n1_ := Aside0.mk (Kd.R_lower (Kd.R_newB (Kd.R_new' ho14 (Kd.R_lt (by (with_reducible repeat (first | apply Kd.R_alloc | apply Kd.R_drewN | apply Kd.R_drew)); exact HO_4.out))) (g := gb228) (o := .cells #[.int .i64 0, .int .i64 0, .string (⟨#[]⟩ : ByteArray)] 23 (0, 0)) (by (with_reducible repeat (first | refine blk_drewN ?_ _ | refine blk_drew ?_ | refine blk_alloc ?_ _)); exact BK228.out)) (below_size (by repeat (first | (with_reducible first | exact HB.out | apply below_alloc | apply pw_below_drewN | apply below_drew1 | refine below_set ?_ GE228.out) | exact HB.out)))); have n2_ := Aside0.mk (blk_below (g := gb228) (o := .cells #[.int .i64 0, .int .i64 0, .string (⟨#[]⟩ : ByteArray)] 23 (0, 0)) (by (with_reducible repeat (first | refine blk_drewN ?_ _ | refine blk_drew ?_ | refine blk_alloc ?_ _)); exact BK228.out) hb); have n3_ := Aside0.mk (below_step (by repeat (first | (with_reducible first | exact HB.out | apply below_alloc | apply pw_below_drewN | apply below_drew1 | refine below_set ?_ GE228.out) | exact HB.out)) hb); clear HO_4; clear BK228; clear HB; have HO_4 := n0_; have HO237 := n1_; have BK228 := n2_; have HB := n3_; clear n0_ n1_ n2_ n3_; clear hb ho14; obtain ⟨Ao16, co16, eo16⟩ := Kd.R_slice HO237.out; subst eo16) | ((with_reducible refine gate_builtin (b := .append) (xs := #[.tmp 18, .tmp 28]) rfl ?_); (try (refine gate_guard (by rfl) ?_; dsimp only)); at_builtin; refine Kd.R_append_rows k23 (w0 := w) w.heap.size rfl (.tmp 18) (.tmp 28) 46 23 (.agg #[(.int .i64 0), (.int .i64 0), (.string ⟨#[]⟩)]) 32 rfl Tryd.underlying46 info23 rfl (by decide) (by omega) v230 y229 y235 _ _ _ (fun k_ => some k_ ≠ (.slice Ao16 y235.length co16 : Value).ownBlock ∧ k_ ≠ gb228) (fun _ => False) rfl rfl ?aO ?aR (fun _ _ h => h) (fun _ h => h.elim) ?aF ?aB ?aS ?aL ?_; (case aR => repeat (first | exact (Kd.R_reads' HO237.out).2.2 | (with_reducible refine Kd.C_alloc ?_ _) | (with_reducible refine Kd.C_drewN ?_ _) | (with_reducible refine Kd.C_drew ?_))); (case aB => exact (by repeat (first | (with_reducible first | exact HB.out | apply below_alloc | apply pw_below_drewN | apply below_drew1 | refine below_set ?_ GE228.out) | exact HB.out))); (case aF => exact (fun k_ hk => ⟨Kd.fresh' (Kd.R_lt (by (with_reducible repeat (first | apply Kd.R_alloc | apply Kd.R_drewN | apply Kd.R_drew)); exact HO237.out)) k_ hk, Kd.freshB (g := gb228) (o := .cells #[.int .i64 0, .int .i64 0, .string (⟨#[]⟩ : ByteArray)] 23 (0, 0)) (by (with_reducible repeat (first | refine blk_drewN ?_ _ | refine blk_drew ?_ | refine blk_alloc ?_ _)); exact BK228.out) k_ hk⟩)); (case aO => exact (by (with_reducible repeat (first | apply Kd.R_alloc | apply Kd.R_drewN | apply Kd.R_drew)); exact Kd.R_mono HO_4.out (fun _ hk => ⟨hk.2, hk.1⟩))); (case aS => exact (below_size (by repeat (first | (with_reducible first | exact HB.out | apply below_alloc | apply pw_below_drewN | apply below_drew1 | refine below_set ?_ GE228.out) | exact HB.out)))); (case aL => have := LMc12.out; omega); intro v239 w15 ho hb hg hat; rw [← Ny238.out] at ho; have n0_ := Aside0.mk (blk_grown (g := gb228) (o := .cells #[.int .i64 0, .int .i64 0, .string (⟨#[]⟩ : ByteArray)] 23 (0, 0)) (by (with_reducible repeat (first | refine blk_drewN ?_ _ | refine blk_drew ?_ | refine blk_alloc ?_ _)); exact BK228.out) hg (Kd.R_away HO_4.out (fun _ hk => hk.1))); have n1_ := Aside0.mk (Kd.R_after (ok := (fun k_ => k_ ≠ gb228)) (by (with_reducible repeat (first | apply Kd.R_alloc | apply Kd.R_drewN | apply Kd.R_drew)); exact Kd.R_mono HO237.out (fun _ hk => ⟨hk.2, hk.1.2⟩)) hg hat); have n2_ := Aside0.mk (hb); have n3_ := Aside0.mk (ho); clear BK228; clear HO237; clear HB; clear HO_4; have BK228 := n0_; have HO237 := n1_; have HB := n2_; have HO240 := n3_; clear n0_ n1_ n2_ n3_; clear ho hb hg hat))
      go_meet
      case rel => exact ⟨_, (y238), H', ⟨by have := HJ1.out; first | omega | exact Nat.le_refl _⟩, ⟨by (with_reducible repeat (first | apply Kd.R_alloc | apply Kd.R_drewN | apply Kd.R_drew)); exact Kd.R_mono HO240.out (fun _ hk => hk.2)⟩, ⟨by (with_reducible repeat (first | refine blk_drewN ?_ _ | refine blk_drew ?_ | refine blk_alloc ?_ _)); exact BK228.out⟩, ⟨by repeat (first | (with_reducible first | exact HB.out | apply below_alloc | apply pw_below_drewN | apply below_drew1 | refine below_set ?_ GE228.out) | exact HB.out)⟩⟩
     ·rw [if_neg c12] at H
      exact absurd H (by simp)
    ·replace c8 := Bool.eq_false_iff.mpr c8
     subst c8
     have H1 : (moultref1_Read.j1 kj1 a0 y229) = some (r1, r2, r3, r4) := by rw [if_neg (show ¬ (false = true) by decide)] at H; exact H
     clear H
     have H := H1
     clear H1
     have H' := Aside0.mk H
     clear H
     go_wp2
     go_meet
     case rel => exact ⟨_, (y229), H', ⟨by have := HJ1.out; first | omega | exact Nat.le_refl _⟩, ⟨by (with_reducible repeat (first | apply Kd.R_alloc | apply Kd.R_drewN | apply Kd.R_drew)); exact HO_4.out⟩, ⟨by (with_reducible repeat (first | refine blk_drewN ?_ _ | refine blk_drew ?_ | refine blk_alloc ?_ _)); exact BK228.out⟩, ⟨by repeat (first | (with_reducible first | exact HB.out | apply below_alloc | apply pw_below_drewN | apply below_drew1 | refine below_set ?_ GE228.out) | exact HB.out)⟩⟩
   case rest =>
    clear HC7
    try clear c1
    try clear c2
    try clear p2
    try clear c3
    try clear c6
    try clear c6b0
    try clear c6b1
    try clear c8
    try clear c12
    try clear c16
    try clear p2
    obtain ⟨kq, x4_6, HA, HJ6, HO_4, BK228, HB⟩ := hcut
    cases kq with
    | zero => exact absurd HA.out (by simp [moultref1_Read.j1])
    | succ kj6 =>
     have H := HA.out
     clear HA
     simp only [moultref1_Read.j1] at H
     have HC17 := Aside0.mk H
     clear H
     go_upto_if 32 with (fail)
     go_cut [4] (fun v4 wc => ∃ (kq : Nat) (x4_16 : List (S23)), Aside0 (moultref1_Read.j2 kq a0 x4_16 = some (r1, r2, r3, r4)) ∧ Aside0 (kq ≤ kj6) ∧ Aside0 (Kd.R k23 23 wc w.heap.size (fun k_ => k_ ≠ gb228) v4 x4_16) ∧ Aside0 (wc.heap[gb228]? = some (.cells #[.int .i64 0, .int .i64 0, .string (⟨#[]⟩ : ByteArray)] 23 (0, 0))) ∧ Aside0 (Below w.heap.size w wc))
     case first =>
      have H := HC17.out
      clear HC17
      by_cases c18 : (a0.size : Int) ≥ 2
      ·rw [if_pos c18] at H
       have c18b0 : decide (2 ≤ (a0.size : Int)) = true := decide_eq_true c18
       have c18b1 : decide (2 ≤ a0.size) = true := decide_eq_true (by omega)
       clear c18
       (first | rw [c18b0] | (simp only [i64_w, i32_w]; rw [c18b0]) | skip)
       by_cases c19 : 1 ≤ (wrap64 ((a0.size : Int) - 1))
       ·rw [if_pos c19] at H
        have c19b0 := eq_true c19
        have c19b1 : decide (1 ≤ (wrap64 ((a0.size : Int) - 1))) = true := decide_eq_true c19
        clear c19
        by_cases c20 : (wrap64 ((a0.size : Int) - 1)) ≤ (a0.size : Int)
        ·rw [if_pos c20] at H
         have c20b0 := eq_true c20
         have c20b1 : decide ((wrap64 ((a0.size : Int) - 1)) ≤ (a0.size : Int)) = true := decide_eq_true c20
         clear c20
         replace H := Option.bind_eq_some_iff.mp H
         obtain ⟨t241, A210, H⟩ := H
         replace H : ((some (([(⟨5, 0, t241⟩ : S23), (⟨6, 0, t241⟩ : S23)] : List (S23)) : List (S23))).bind fun y242 => (if x4_6.length + y242.length < 4398046511104 then (moultref1_Read.j2 kj6 a0 (x4_6 ++ y242)) else (none))) = some (r1, r2, r3, r4) := H
         have A21 := Aside0.mk A210
         clear A210
         obtain ⟨y242, hy242⟩ : ∃ y_ : List (S23), y_ = (([(⟨5, 0, t241⟩ : S23), (⟨6, 0, t241⟩ : S23)] : List (S23))) := ⟨_, rfl⟩
         replace H : (if x4_6.length + y242.length < 4398046511104 then (moultref1_Read.j2 kj6 a0 (x4_6 ++ y242)) else (none)) = some (r1, r2, r3, r4) := by first | (rw [hy242]; with_reducible exact H) | (have H2_ := (Option.bind_some _ _).symm.trans H; rw [hy242]; with_reducible exact H2_) | (have H2_ := (Option.bind_some _ _).symm.trans H; with_reducible exact H2_) | with_reducible exact H | (rw [hy242]; exact H) | exact H
         have Ny242 := Aside0.mk hy242
         clear hy242
         by_cases c22 : x4_6.length + y242.length < 4398046511104
         ·rw [if_pos c22] at H
          have LMc22 := Aside0.mk c22
          clear c22
          obtain ⟨y245, hy245⟩ : ∃ y_ : List (S23), y_ = (x4_6 ++ y242) := ⟨_, rfl⟩
          replace H : (moultref1_Read.j2 kj6 a0 y245) = some (r1, r2, r3, r4) := by first | (rw [hy245]; with_reducible exact H) | (have H2_ := (Option.bind_some _ _).symm.trans H; rw [hy245]; with_reducible exact H2_) | (have H2_ := (Option.bind_some _ _).symm.trans H; with_reducible exact H2_) | with_reducible exact H | (rw [hy245]; exact H) | exact H
          have Ny245 := Aside0.mk hy245
          clear hy245
          have H' := Aside0.mk H
          clear H
          go_wp2_with (first | ((with_reducible refine gate_callee (f := 30) rfl ?_); refine goesL_ (some 38) rfl rfl Tryd.func30 (by kernel_rfl) rfl #[.string (a0.extract 1 ((wrap64 ((a0.size : Int) - 1)) : Int).toNat)] rfl (by (try simp only [List.map_toArray, List.map_cons, List.map_nil]); first | done | rfl | (simp only [List.length_drop, List.length_take]; rfl)) ?_; (with_reducible refine (moultref1_unquoted.calls kj6 (a0.extract 1 ((wrap64 ((a0.size : Int) - 1)) : Int).toNat) t241 _ A21.out).mono ?_); rintro e w23 ⟨rfl, hb⟩; refine ⟨_, rfl, ?_⟩; have n0_ := Aside0.mk (Kd.R_below (by (with_reducible repeat (first | apply Kd.R_alloc | apply Kd.R_drewN | apply Kd.R_drew)); exact HO_4.out) hb); have n1_ := Aside0.mk (blk_below (g := gb228) (o := .cells #[.int .i64 0, .int .i64 0, .string (⟨#[]⟩ : ByteArray)] 23 (0, 0)) (by (with_reducible repeat (first | refine blk_drewN ?_ _ | refine blk_drew ?_ | refine blk_alloc ?_ _)); exact BK228.out) hb); have n2_ := Aside0.mk (below_step (by repeat (first | (with_reducible first | exact HB.out | apply below_alloc | apply pw_below_drewN | apply below_drew1 | refine below_set ?_ GE228.out) | exact HB.out)) hb); clear HO_4; clear BK228; clear HB; have HO_4 := n0_; have BK228 := n1_; have HB := n2_; clear n0_ n1_ n2_; (try clear hb); (try clear hb2); (try clear hk); (try clear hi)) | ((with_reducible refine gate_dst (N := 44) rfl ?_); (try (refine gate_guard (by rfl) ?_; dsimp only)); refine Kd.R_lit k23 _ 23 ?hg (N := 44) ?hd (xs := ([(⟨5, 0, t241⟩ : S23), (⟨6, 0, t241⟩ : S23)] : List (S23))) (inner := [.int .i64 5, .int .i64 0, .string t241, .int .i64 6, .int .i64 0, .string t241]) (ok := fun _ => True) (okp := fun _ => True) ?hr ?hp (fun _ hk => hk) trivial (Below.refl _ _) (Nat.le_refl _) (by simp) ?_; (case hd => rfl); (case hg => rfl); (case hr => first | (go_simp; done) | (go_simp; rfl)); (case hp => exact (Reps.c3 (show Kd.M k23 _ _ _ (⟨5, 0, t241⟩ : S23) [.int .i64 5, .int .i64 0, .string t241] from (k23_mkM _ _ _ (⟨5, 0, t241⟩ : S23) )) (Reps.c3 (show Kd.M k23 _ _ _ (⟨6, 0, t241⟩ : S23) [.int .i64 6, .int .i64 0, .string t241] from (k23_mkM _ _ _ (⟨6, 0, t241⟩ : S23) )) (Reps.none _ _)))); intro v243 w24 ho25 hb hg_ hnew_; clear hg_ hnew_; (first | rw [← Ny242.out] at ho25 | (simp only [Int.reduceToNat] at ho25; rw [← Ny242.out] at ho25)); have n0_ := Aside0.mk (Kd.R_elder' (by (with_reducible repeat (first | apply Kd.R_alloc | apply Kd.R_drewN | apply Kd.R_drew)); exact HO_4.out) (Kd.R_base ho25) hb); have n1_ := Aside0.mk (Kd.R_lower (Kd.R_newB (Kd.R_new' ho25 (Kd.R_lt (by (with_reducible repeat (first | apply Kd.R_alloc | apply Kd.R_drewN | apply Kd.R_drew)); exact HO_4.out))) (g := gb228) (o := .cells #[.int .i64 0, .int .i64 0, .string (⟨#[]⟩ : ByteArray)] 23 (0, 0)) (by (with_reducible repeat (first | refine blk_drewN ?_ _ | refine blk_drew ?_ | refine blk_alloc ?_ _)); exact BK228.out)) (below_size (by repeat (first | (with_reducible first | exact HB.out | apply below_alloc | apply pw_below_drewN | apply below_drew1 | refine below_set ?_ GE228.out) | exact HB.out)))); have n2_ := Aside0.mk (blk_below (g := gb228) (o := .cells #[.int .i64 0, .int .i64 0, .string (⟨#[]⟩ : ByteArray)] 23 (0, 0)) (by (with_reducible repeat (first | refine blk_drewN ?_ _ | refine blk_drew ?_ | refine blk_alloc ?_ _)); exact BK228.out) hb); have n3_ := Aside0.mk (below_step (by repeat (first | (with_reducible first | exact HB.out | apply below_alloc | apply pw_below_drewN | apply below_drew1 | refine below_set ?_ GE228.out) | exact HB.out)) hb); clear HO_4; clear BK228; clear HB; have HO_4 := n0_; have HO244 := n1_; have BK228 := n2_; have HB := n3_; clear n0_ n1_ n2_ n3_; clear hb ho25; obtain ⟨Ao27, co27, eo27⟩ := Kd.R_slice HO244.out; subst eo27) | ((with_reducible refine gate_builtin (b := .append) (xs := #[.tmp 39, .tmp 44]) rfl ?_); (try (refine gate_guard (by rfl) ?_; dsimp only)); at_builtin; refine Kd.R_append_rows k23 (w0 := w) w.heap.size rfl (.tmp 39) (.tmp 44) 46 23 (.agg #[(.int .i64 0), (.int .i64 0), (.string ⟨#[]⟩)]) 32 rfl Tryd.underlying46 info23 rfl (by decide) (by omega) u4 x4_6 y242 _ _ _ (fun k_ => some k_ ≠ (.slice Ao27 y242.length co27 : Value).ownBlock ∧ k_ ≠ gb228) (fun _ => False) rfl rfl ?aO ?aR (fun _ _ h => h) (fun _ h => h.elim) ?aF ?aB ?aS ?aL ?_; (case aR => repeat (first | exact (Kd.R_reads' HO244.out).2.2 | (with_reducible refine Kd.C_alloc ?_ _) | (with_reducible refine Kd.C_drewN ?_ _) | (with_reducible refine Kd.C_drew ?_))); (case aB => exact (by repeat (first | (with_reducible first | exact HB.out | apply below_alloc | apply pw_below_drewN | apply below_drew1 | refine below_set ?_ GE228.out) | exact HB.out))); (case aF => exact (fun k_ hk => ⟨Kd.fresh' (Kd.R_lt (by (with_reducible repeat (first | apply Kd.R_alloc | apply Kd.R_drewN | apply Kd.R_drew)); exact HO244.out)) k_ hk, Kd.freshB (g := gb228) (o := .cells #[.int .i64 0, .int .i64 0, .string (⟨#[]⟩ : ByteArray)] 23 (0, 0)) (by (with_reducible repeat (first | refine blk_drewN ?_ _ | refine blk_drew ?_ | refine blk_alloc ?_ _)); exact BK228.out) k_ hk⟩)); (case aO => exact (by (with_reducible repeat (first | apply Kd.R_alloc | apply Kd.R_drewN | apply Kd.R_drew)); exact Kd.R_mono HO_4.out (fun _ hk => ⟨hk.2, hk.1⟩))); (case aS => exact (below_size (by repeat (first | (with_reducible first | exact HB.out | apply below_alloc | apply pw_below_drewN | apply below_drew1 | refine below_set ?_ GE228.out) | exact HB.out)))); (case aL => have := LMc22.out; omega); intro v246 w26 ho hb hg hat; rw [← Ny245.out] at ho; have n0_ := Aside0.mk (blk_grown (g := gb228) (o := .cells #[.int .i64 0, .int .i64 0, .string (⟨#[]⟩ : ByteArray)] 23 (0, 0)) (by (with_reducible repeat (first | refine blk_drewN ?_ _ | refine blk_drew ?_ | refine blk_alloc ?_ _)); exact BK228.out) hg (Kd.R_away HO_4.out (fun _ hk => hk.1))); have n1_ := Aside0.mk (Kd.R_after (ok := (fun k_ => k_ ≠ gb228)) (by (with_reducible repeat (first | apply Kd.R_alloc | apply Kd.R_drewN | apply Kd.R_drew)); exact Kd.R_mono HO244.out (fun _ hk => ⟨hk.2, hk.1.2⟩)) hg hat); have n2_ := Aside0.mk (hb); have n3_ := Aside0.mk (ho); clear BK228; clear HO244; clear HB; clear HO_4; have BK228 := n0_; have HO244 := n1_; have HB := n2_; have HO247 := n3_; clear n0_ n1_ n2_ n3_; clear ho hb hg hat))
          go_meet
          case rel => exact ⟨_, (y245), H', ⟨by have := HJ1.out; have := HJ6.out; first | omega | exact Nat.le_refl _⟩, ⟨by (with_reducible repeat (first | apply Kd.R_alloc | apply Kd.R_drewN | apply Kd.R_drew)); exact Kd.R_mono HO247.out (fun _ hk => hk.2)⟩, ⟨by (with_reducible repeat (first | refine blk_drewN ?_ _ | refine blk_drew ?_ | refine blk_alloc ?_ _)); exact BK228.out⟩, ⟨by repeat (first | (with_reducible first | exact HB.out | apply below_alloc | apply pw_below_drewN | apply below_drew1 | refine below_set ?_ GE228.out) | exact HB.out)⟩⟩
         ·rw [if_neg c22] at H
          exact absurd H (by simp)
        ·rw [if_neg c20] at H
         exact absurd H (by simp)
       ·rw [if_neg c19] at H
        exact absurd H (by simp)
      ·rw [if_neg c18] at H
       have c18b0 : decide (2 ≤ (a0.size : Int)) = false := decide_eq_false c18
       have c18b1 : decide (2 ≤ a0.size) = false := decide_eq_false (by omega)
       clear c18
       (first | rw [c18b0] | (simp only [i64_w, i32_w]; rw [c18b0]) | skip)
       have H' := Aside0.mk H
       clear H
       go_wp2
       go_meet
       case rel => exact ⟨_, (x4_6), H', ⟨by have := HJ1.out; have := HJ6.out; first | omega | exact Nat.le_refl _⟩, ⟨by (with_reducible repeat (first | apply Kd.R_alloc | apply Kd.R_drewN | apply Kd.R_drew)); exact HO_4.out⟩, ⟨by (with_reducible repeat (first | refine blk_drewN ?_ _ | refine blk_drew ?_ | refine blk_alloc ?_ _)); exact BK228.out⟩, ⟨by repeat (first | (with_reducible first | exact HB.out | apply below_alloc | apply pw_below_drewN | apply below_drew1 | refine below_set ?_ GE228.out) | exact HB.out)⟩⟩
     case rest =>
      clear HC17
      try clear c1
      try clear c2
      try clear p2
      try clear c3
      try clear c6
      try clear c6b0
      try clear c6b1
      try clear p6
      try clear c8
      try clear c12
      try clear c16
      try clear c18
      try clear c18b0
      try clear c18b1
      try clear c19
      try clear c19b0
      try clear c19b1
      try clear c20
      try clear c20b0
      try clear c20b1
      try clear c22
      try clear p2
      obtain ⟨kq, x4_16, HA, HJ16, HO_4, BK228, HB⟩ := hcut
      cases kq with
      | zero => exact absurd HA.out (by simp [moultref1_Read.j2])
      | succ kj16 =>
       have H := HA.out
       clear HA
       simp only [moultref1_Read.j2] at H
       have H' := Aside0.mk H
       clear H
       go_wp2
       go_loopg [6] kj16 (fun kq v6 w' => ∃ (x6_4 : Int) (x229000_4 : Int) (x229001_4 : Int) (x229002_4 : ByteArray), v6 = .int .i64 x6_4 ∧ Aside0 (moultref1_Read.l0 kq a0 x4_16 x6_4 = some (r1, r2, r3, r4)) ∧ Aside0 (kq ≤ kj16) ∧ Aside0 (Kd.R k23 23 w' w.heap.size (fun k_ => k_ ≠ gb228) u4 x4_16) ∧ Aside0 (w'.heap[gb228]? = some (.cells #[.int .i64 x229000_4, .int .i64 x229001_4, .string x229002_4] 23 (0, 0))) ∧ Aside0 (Below w.heap.size w w'))
       case atStart => exact ⟨(0), (0), (0), ((⟨#[]⟩ : ByteArray)), (by first | rfl | (simp; done) | (simp [*]; done)), H', ⟨Nat.le_refl _⟩, ⟨by (with_reducible repeat (first | apply Kd.R_alloc | apply Kd.R_drewN | apply Kd.R_drew)); exact HO_4.out⟩, ⟨by (with_reducible repeat (first | refine blk_drewN ?_ _ | refine blk_drew ?_ | refine blk_alloc ?_ _)); exact BK228.out⟩, ⟨by repeat (first | (with_reducible first | exact HB.out | apply below_alloc | apply pw_below_drewN | apply below_drew1 | refine below_set ?_ GE228.out) | exact HB.out)⟩⟩
       case round =>
        clear H'
        try clear c1
        try clear c2
        try clear p2
        try clear c3
        try clear c6
        try clear c6b0
        try clear c6b1
        try clear p6
        try clear c8
        try clear c12
        try clear c16
        try clear c18
        try clear c18b0
        try clear c18b1
        try clear c19
        try clear c19b0
        try clear c19b1
        try clear c20
        try clear c20b0
        try clear c20b1
        try clear c22
        try clear p2
        try clear p6
        obtain ⟨x6_4, x229000_4, x229001_4, x229002_4, rfl, HA, HK4, HO_4, BK228, HB⟩ := hrel
        cases gk with
        | zero => exact absurd HA.out (by simp [moultref1_Read.l0])
        | succ k4 =>
         have H := HA.out
         clear HA
         simp only [moultref1_Read.l0] at H
         by_cases c28 : x6_4 < (x4_16.length : Int)
         ·rw [if_pos c28] at H
          have c28b0 : decide (x6_4 < (x4_16.length : Int)) = true := decide_eq_true c28
          clear c28
          by_cases c29 : a0.toList = ([] : List UInt8)
          ·rw [if_pos c29] at H
           have c29b0 : (a0.toList == ([] : List UInt8)) = true := beq_iff_eq.mpr c29
           have c29b1 : (a0.toList != ([] : List UInt8)) = false := bne_eq_false_iff_eq.mpr c29
           clear c29
           have H' := Aside0.mk H
           clear H
           obtain ⟨Ao30, co30, eo30⟩ := Kd.R_slice HO_4.out
           subst eo30
           go_wp2
           go_roundg k4
           case measure => have := HJ1.out; have := HJ6.out; have := HJ16.out; have := HK4.out; omega
           case rel => exact ⟨(wrap64 (x6_4 + 1)), (x229000_4), (x229001_4), (x229002_4), (by first | rfl | (simp; done) | (simp [*]; done)), H', ⟨by have := HJ1.out; have := HJ6.out; have := HJ16.out; have := HK4.out; omega⟩, ⟨by (with_reducible repeat (first | apply Kd.R_alloc | apply Kd.R_drewN | apply Kd.R_drew)); exact HO_4.out⟩, ⟨by (with_reducible repeat (first | refine blk_drewN ?_ _ | refine blk_drew ?_ | refine blk_alloc ?_ _)); exact BK228.out⟩, ⟨by repeat (first | (with_reducible first | exact HB.out | apply below_alloc | apply pw_below_drewN | apply below_drew1 | refine below_set ?_ GE228.out) | exact HB.out)⟩⟩
          ·rw [if_neg c29] at H
           have c29b0 : (a0.toList == ([] : List UInt8)) = false := beq_eq_false_iff_ne.mpr c29
           have c29b1 : (a0.toList != ([] : List UInt8)) = true := bne_iff_ne.mpr c29
           by_cases c31 : 0 ≤ x6_4
           ·rw [if_pos c31] at H
            have c31b0 : decide (0 ≤ x6_4) = true := decide_eq_true c31
            clear c31
            replace H := Option.bind_eq_some_iff.mp H
            obtain ⟨t249, A320, H⟩ := H
            replace H : (if t249.toList = a0.toList then (some ((rd_T23 x4_16 x6_4).f0, (rd_T23 x4_16 x6_4).f1, (rd_T23 x4_16 x6_4).f2, 0)) else (moultref1_Read.l0 k4 a0 x4_16 (wrap64 (x6_4 + 1)))) = some (r1, r2, r3, r4) := H
            have A32 := Aside0.mk A320
            clear A320
            by_cases c33 : t249.toList = a0.toList
            ·rw [if_pos c33] at H
             have c33b0 : (t249.toList == a0.toList) = true := beq_iff_eq.mpr c33
             have c33b1 : (t249.toList != a0.toList) = false := bne_eq_false_iff_eq.mpr c33
             clear c33
             simp only [Option.some.injEq, Prod.mk.injEq] at H
             obtain ⟨rfl, rfl, rfl, rfl⟩ := H
             obtain ⟨Ao34, co34, eo34⟩ := Kd.R_slice HO_4.out
             subst eo34
             have p248 : 0 ≤ (x6_4 : Int) := of_decide_eq_true (by first | (with_reducible assumption) | assumption)
             have q248 : x6_4 < (x4_16.length : Int) := of_decide_eq_true (by first | (with_reducible assumption) | assumption)
             obtain ⟨ad248, e248, hx248_0, hx248_1, hx248_2⟩ := at_T23 (Kd.R_reads' HO_4.out).2.2 x6_4 p248 q248
             cases e248
             replace p248 := eq_true p248
             replace q248 := eq_true q248
             go_wp2_with (first | (go_at_call 14; (with_reducible refine (moultref1_Print.calls k4 ((rd_T23 x4_16 x6_4).f0) ((rd_T23 x4_16 x6_4).f1) ((rd_T23 x4_16 x6_4).f2) t249 _ A32.out).mono ?_); rintro e w35 ⟨rfl, hb⟩; have n0_ := Aside0.mk (Kd.R_below (by (with_reducible repeat (first | apply Kd.R_alloc | apply Kd.R_drewN | apply Kd.R_drew)); exact HO_4.out) hb); have n1_ := Aside0.mk (blk_below (g := gb228) (o := .cells #[.int .i64 x229000_4, .int .i64 x229001_4, .string x229002_4] 23 (0, 0)) (by (with_reducible repeat (first | refine blk_drewN ?_ _ | refine blk_drew ?_ | refine blk_alloc ?_ _)); exact BK228.out) hb); have n2_ := Aside0.mk (below_step (by repeat (first | (with_reducible first | exact HB.out | apply below_alloc | apply pw_below_drewN | apply below_drew1 | refine below_set ?_ GE228.out) | exact HB.out)) hb); clear HO_4; clear BK228; clear HB; have HO_4 := n0_; have BK228 := n1_; have HB := n2_; clear n0_ n1_ n2_; (try clear hb); (try clear hb2); (try clear hk); (try clear hi); have p250 : 0 ≤ (x6_4 : Int) := of_decide_eq_true (by first | (with_reducible assumption) | assumption); have q250 : x6_4 < (x4_16.length : Int) := of_decide_eq_true (by first | (with_reducible assumption) | assumption); obtain ⟨ad250, e250, hx250_0, hx250_1, hx250_2⟩ := at_T23 (Kd.R_reads' HO_4.out).2.2 x6_4 p250 q250; obtain rfl : ad248 = ad250 := (by injection e250); replace p250 := eq_true p250; replace q250 := eq_true q250; have hcz36_0 : w35.cell? ⟨gb228, 0, none⟩ = some (.int .i64 x229000_4) := (blk_cell BK228.out 0).trans rfl; have hcz36_1 : w35.cell? ⟨gb228, 1, none⟩ = some (.int .i64 x229001_4) := (blk_cell BK228.out 1).trans rfl; have hcz36_2 : w35.cell? ⟨gb228, 2, none⟩ = some (.string x229002_4) := (blk_cell BK228.out 2).trans rfl; have hfz36_0 := blk_frozen BK228.out 0; have hfz36_1 := blk_frozen BK228.out 1; have hfz36_2 := blk_frozen BK228.out 2))
             refine bodyPost_ret (results_ct rfl _ _ gb228 23 #[.int .i64 ((rd_T23 x4_16 x6_4).f0), .int .i64 ((rd_T23 x4_16 x6_4).f1), .string ((rd_T23 x4_16 x6_4).f2)] (0, 0) _ rfl (by (with_reducible repeat (first | refine blk_drewN ?_ _ | refine blk_drew ?_ | refine blk_alloc ?_ _)); refine blk_put (cs := #[.int .i64 ((rd_T23 x4_16 x6_4).f0), .int .i64 ((rd_T23 x4_16 x6_4).f1), .string x229002_4]) ?_ 2 _ rfl; (with_reducible repeat (first | refine blk_drewN ?_ _ | refine blk_drew ?_ | refine blk_alloc ?_ _)); refine blk_put (cs := #[.int .i64 ((rd_T23 x4_16 x6_4).f0), .int .i64 x229001_4, .string x229002_4]) ?_ 1 _ rfl; (with_reducible repeat (first | refine blk_drewN ?_ _ | refine blk_drew ?_ | refine blk_alloc ?_ _)); refine blk_put (cs := #[.int .i64 x229000_4, .int .i64 x229001_4, .string x229002_4]) ?_ 0 _ rfl; (with_reducible repeat (first | refine blk_drewN ?_ _ | refine blk_drew ?_ | refine blk_alloc ?_ _)); exact BK228.out) Tryd.underlying23 rfl (by kernel_rfl)) rfl ?_
             exact ⟨by first | rfl | (simp [errW_none, errW_some] <;> rfl) | (simp [*, errW_none, errW_some] <;> rfl), by repeat (first | (with_reducible first | exact HB.out | apply below_alloc | apply pw_below_drewN | apply below_drew1 | refine below_set ?_ GE228.out) | exact HB.out)⟩
            ·rw [if_neg c33] at H
             have c33b0 : (t249.toList == a0.toList) = false := beq_eq_false_iff_ne.mpr c33
             have c33b1 : (t249.toList != a0.toList) = true := bne_iff_ne.mpr c33
             have H' := Aside0.mk H
             clear H
             obtain ⟨Ao37, co37, eo37⟩ := Kd.R_slice HO_4.out
             subst eo37
             have p248 : 0 ≤ (x6_4 : Int) := of_decide_eq_true (by first | (with_reducible assumption) | assumption)
             have q248 : x6_4 < (x4_16.length : Int) := of_decide_eq_true (by first | (with_reducible assumption) | assumption)
             obtain ⟨ad248, e248, hx248_0, hx248_1, hx248_2⟩ := at_T23 (Kd.R_reads' HO_4.out).2.2 x6_4 p248 q248
             cases e248
             replace p248 := eq_true p248
             replace q248 := eq_true q248
             go_wp2_with (first | (go_at_call 14; (with_reducible refine (moultref1_Print.calls k4 ((rd_T23 x4_16 x6_4).f0) ((rd_T23 x4_16 x6_4).f1) ((rd_T23 x4_16 x6_4).f2) t249 _ A32.out).mono ?_); rintro e w38 ⟨rfl, hb⟩; have n0_ := Aside0.mk (Kd.R_below (by (with_reducible repeat (first | apply Kd.R_alloc | apply Kd.R_drewN | apply Kd.R_drew)); exact HO_4.out) hb); have n1_ := Aside0.mk (blk_below (g := gb228) (o := .cells #[.int .i64 x229000_4, .int .i64 x229001_4, .string x229002_4] 23 (0, 0)) (by (with_reducible repeat (first | refine blk_drewN ?_ _ | refine blk_drew ?_ | refine blk_alloc ?_ _)); exact BK228.out) hb); have n2_ := Aside0.mk (below_step (by repeat (first | (with_reducible first | exact HB.out | apply below_alloc | apply pw_below_drewN | apply below_drew1 | refine below_set ?_ GE228.out) | exact HB.out)) hb); clear HO_4; clear BK228; clear HB; have HO_4 := n0_; have BK228 := n1_; have HB := n2_; clear n0_ n1_ n2_; (try clear hb); (try clear hb2); (try clear hk); (try clear hi)))
             go_roundg k4
             case measure => have := HJ1.out; have := HJ6.out; have := HJ16.out; have := HK4.out; omega
             case rel => exact ⟨(wrap64 (x6_4 + 1)), (x229000_4), (x229001_4), (x229002_4), (by first | rfl | (simp; done) | (simp [*]; done)), H', ⟨by have := HJ1.out; have := HJ6.out; have := HJ16.out; have := HK4.out; omega⟩, ⟨by (with_reducible repeat (first | apply Kd.R_alloc | apply Kd.R_drewN | apply Kd.R_drew)); exact HO_4.out⟩, ⟨by (with_reducible repeat (first | refine blk_drewN ?_ _ | refine blk_drew ?_ | refine blk_alloc ?_ _)); exact BK228.out⟩, ⟨by repeat (first | (with_reducible first | exact HB.out | apply below_alloc | apply pw_below_drewN | apply below_drew1 | refine below_set ?_ GE228.out) | exact HB.out)⟩⟩
           ·rw [if_neg c31] at H
            exact absurd H (by simp)
         ·rw [if_neg c28] at H
          have c28b0 : decide (x6_4 < (x4_16.length : Int)) = false := decide_eq_false c28
          clear c28
          simp only [Option.some.injEq, Prod.mk.injEq] at H
          obtain ⟨rfl, rfl, rfl, rfl⟩ := H
          obtain ⟨Ao39, co39, eo39⟩ := Kd.R_slice HO_4.out
          subst eo39
          have hcz40_0 : wr.cell? ⟨gb228, 0, none⟩ = some (.int .i64 x229000_4) := (blk_cell BK228.out 0).trans rfl
          have hcz40_1 : wr.cell? ⟨gb228, 1, none⟩ = some (.int .i64 x229001_4) := (blk_cell BK228.out 1).trans rfl
          have hcz40_2 : wr.cell? ⟨gb228, 2, none⟩ = some (.string x229002_4) := (blk_cell BK228.out 2).trans rfl
          have hfz40_0 := blk_frozen BK228.out 0
          have hfz40_1 := blk_frozen BK228.out 1
          have hfz40_2 := blk_frozen BK228.out 2
          go_wp2
          refine bodyPost_ret (results_ct rfl _ _ gb228 23 #[.int .i64 0, .int .i64 0, .string (⟨#[]⟩ : ByteArray)] (0, 0) _ rfl (by (with_reducible repeat (first | refine blk_drewN ?_ _ | refine blk_drew ?_ | refine blk_alloc ?_ _)); refine blk_put (cs := #[.int .i64 0, .int .i64 0, .string x229002_4]) ?_ 2 _ rfl; (with_reducible repeat (first | refine blk_drewN ?_ _ | refine blk_drew ?_ | refine blk_alloc ?_ _)); refine blk_put (cs := #[.int .i64 0, .int .i64 x229001_4, .string x229002_4]) ?_ 1 _ rfl; (with_reducible repeat (first | refine blk_drewN ?_ _ | refine blk_drew ?_ | refine blk_alloc ?_ _)); refine blk_put (cs := #[.int .i64 x229000_4, .int .i64 x229001_4, .string x229002_4]) ?_ 0 _ rfl; (with_reducible repeat (first | refine blk_drewN ?_ _ | refine blk_drew ?_ | refine blk_alloc ?_ _)); exact BK228.out) Tryd.underlying23 rfl (by kernel_rfl)) rfl ?_
          exact ⟨by first | rfl | (simp [errW_none, errW_some] <;> rfl) | (simp [*, errW_none, errW_some] <;> rfl), by repeat (first | (with_reducible first | exact HB.out | apply below_alloc | apply pw_below_drewN | apply below_drew1 | refine below_set ?_ GE228.out) | exact HB.out)⟩

/-! ### moultlaw1_ValueReads: function 5 -/
def moultlaw1_ValueReads.j0 : Nat → ByteArray → Bool → Bool → Option (Bool)
 | 0, _, _, _ => none
 | k + 1, x0, x3, x15 => if x15 = true then (some x3) else ((value_Read.f x0).bind fun bt252 => ((moultref1_Read.f k x0).bind fun bt257 => (if (bt252.1 == bt257.1 && (bt252.2.1 == bt257.2.1 && (bt252.2.2.1.toList == bt257.2.2.1.toList))) = true then (some (bt252.2.2.2 == bt257.2.2.2)) else (some false))))
def moultlaw1_ValueReads.f (k : Nat) (a0 : ByteArray) : Option (Bool) := (moultlaw1_shown.f k).bind fun t251 => (if t251 = true then (moultlaw1_ValueReads.j0 k a0 t251 (decide ((a0.size : Int) > 5000))) else (moultlaw1_ValueReads.j0 k a0 t251 true))
theorem moultlaw1_ValueReads.mono_l : ∀ k, (∀ y0 y1 y2, LeO (moultlaw1_ValueReads.j0 k y0 y1 y2) (moultlaw1_ValueReads.j0 (k + 1) y0 y1 y2))
 | 0 => fun _ _ _ r h => by simp [moultlaw1_ValueReads.j0] at h
 | k + 1 => by
  have ih0 := moultlaw1_ValueReads.mono_l k
  ·intro y0 y1 y2
   unfold moultlaw1_ValueReads.j0
   repeat' first
   | (with_reducible exact ih0 _ _ _)
   | (with_reducible exact moultlaw1_shown.mono _)
   | (with_reducible exact moultref1_Read.mono _ _)
   | (with_reducible exact LeO.refl _)
   | (with_reducible exact LeO.none _)
   | (with_reducible refine LeO.ite ?_ ?_)
   | (with_reducible refine LeO.bind ?_ (fun _ => ?_))
   | exact ih0 _ _ _
   | exact moultlaw1_shown.mono _
   | exact moultref1_Read.mono _ _
   | exact LeO.none _
   | refine LeO.ite ?_ ?_
   | refine LeO.bind ?_ (fun _ => ?_)
theorem moultlaw1_ValueReads.mono : ∀ a0 k, LeO (moultlaw1_ValueReads.f k a0) (moultlaw1_ValueReads.f (k + 1) a0) := by
 intro a0 k
 have ih0 := moultlaw1_ValueReads.mono_l k
 unfold moultlaw1_ValueReads.f
 repeat' first
   | (with_reducible exact ih0 _ _ _)
   | (with_reducible exact moultlaw1_shown.mono _)
   | (with_reducible exact moultref1_Read.mono _ _)
   | (with_reducible exact LeO.refl _)
   | (with_reducible exact LeO.none _)
   | (with_reducible refine LeO.ite ?_ ?_)
   | (with_reducible refine LeO.bind ?_ (fun _ => ?_))
   | exact ih0 _ _ _
   | exact moultlaw1_shown.mono _
   | exact moultref1_Read.mono _ _
   | exact LeO.none _
   | refine LeO.ite ?_ ?_
   | refine LeO.bind ?_ (fun _ => ?_)
set_option maxHeartbeats 8000000 in
set_option maxRecDepth 100000 in
theorem moultlaw1_ValueReads.calls (k : Nat) (a0 : ByteArray) (r : Bool) (w : World) (h : moultlaw1_ValueReads.f k a0 = some r) (hG : Laid w) :
  Calls Tryd.prog 5 #[.string a0] w fun e w' => e = .returned (.bool r) ∧ Below w.heap.size w w' := by
 have hu23 := Tryd.underlying23
 have HG := Aside0.mk hG
 clear hG
 have HB := Aside0.mk (Below.refl w.heap.size w)
 have H : ((moultlaw1_shown.f k).bind fun t251 => (if t251 = true then (moultlaw1_ValueReads.j0 k a0 t251 (decide ((a0.size : Int) > 5000))) else (moultlaw1_ValueReads.j0 k a0 t251 true))) = some r := h
 clear h
 replace H := Option.bind_eq_some_iff.mp H
 obtain ⟨t251, A20, H⟩ := H
 replace H : (if t251 = true then (moultlaw1_ValueReads.j0 k a0 t251 (decide ((a0.size : Int) > 5000))) else (moultlaw1_ValueReads.j0 k a0 t251 true)) = some r := H
 have A2 := Aside0.mk A20
 clear A20
 have HC3 := Aside0.mk H
 clear H
 go_enter Tryd.func5, Tryd.ntmps5
 go_upto_region 2 with (first | ((with_reducible refine gate_callee (f := 10) rfl ?_); refine goesL_ (some 8) rfl rfl Tryd.func10 (by kernel_rfl) rfl #[] rfl (by (try simp only [List.map_toArray, List.map_cons, List.map_nil]); first | done | rfl | (simp only [List.length_drop, List.length_take]; rfl)) ?_; (with_reducible refine (moultlaw1_shown.calls k  t251 _ A2.out ?hLaid).mono ?_); (case hLaid => exact HG.out.below (by repeat (first | (with_reducible first | exact HB.out | apply below_alloc | apply pw_below_drewN | apply below_drew1) | exact HB.out))); rintro e w4 ⟨rfl, hb⟩; refine ⟨_, rfl, ?_⟩; have n0_ := Aside0.mk (below_step (by repeat (first | (with_reducible first | exact HB.out | apply below_alloc | apply pw_below_drewN | apply below_drew1) | exact HB.out)) hb); clear HB; have HB := n0_; clear n0_; (try clear hb); (try clear hb2); (try clear hk); (try clear hi)))
 (try simp only [Act.put, List.setIfInBounds_toArray, List.set_cons_zero, List.set_cons_succ])
 go_cut [15] (fun v15 wc => ∃ (kq : Nat) (x15_2 : Bool), v15 = .bool x15_2 ∧ Aside0 (moultlaw1_ValueReads.j0 kq a0 t251 x15_2 = some r) ∧ Aside0 (kq ≤ k) ∧ Aside0 (Below w.heap.size w wc))
 case first =>
  have H := HC3.out
  clear HC3
  by_cases c5 : t251 = true
  ·subst c5
   have H1 : (moultlaw1_ValueReads.j0 k a0 true (decide ((a0.size : Int) > 5000))) = some r := by rw [if_pos rfl] at H; exact H
   clear H
   have H := H1
   clear H1
   have H' := Aside0.mk H
   clear H
   go_wp2
   go_meet
   case rel => exact ⟨_, (decide ((a0.size : Int) > 5000)), (by first | rfl | (simp; done) | (simp [*]; done)), H', ⟨by first | omega | exact Nat.le_refl _⟩, ⟨by repeat (first | (with_reducible first | exact HB.out | apply below_alloc | apply pw_below_drewN | apply below_drew1) | exact HB.out)⟩⟩
  ·replace c5 := Bool.eq_false_iff.mpr c5
   subst c5
   have H1 : (moultlaw1_ValueReads.j0 k a0 false true) = some r := by rw [if_neg (show ¬ (false = true) by decide)] at H; exact H
   clear H
   have H := H1
   clear H1
   have H' := Aside0.mk H
   clear H
   go_wp2
   go_meet
   case rel => exact ⟨_, (true), (by first | rfl | (simp; done) | (simp [*]; done)), H', ⟨by first | omega | exact Nat.le_refl _⟩, ⟨by repeat (first | (with_reducible first | exact HB.out | apply below_alloc | apply pw_below_drewN | apply below_drew1) | exact HB.out)⟩⟩
 case rest =>
  clear HC3
  try clear c1
  try clear p2
  try clear c5
  obtain ⟨kq, x15_2, rfl, HA, HJ2, HB⟩ := hcut
  cases kq with
  | zero => exact absurd HA.out (by simp [moultlaw1_ValueReads.j0])
  | succ kj2 =>
   have H := HA.out
   clear HA
   simp only [moultlaw1_ValueReads.j0] at H
   by_cases c6 : x15_2 = true
   ·subst c6
    have H1 : (some t251) = some r := by rw [if_pos rfl] at H; exact H
    clear H
    have H := H1
    clear H1
    obtain rfl := Option.some.inj H
    go_wp2
    go_ret
    exact ⟨by first | rfl | (simp [errW_none, errW_some] <;> rfl) | (simp [*, errW_none, errW_some] <;> rfl), by repeat (first | (with_reducible first | exact HB.out | apply below_alloc | apply pw_below_drewN | apply below_drew1) | exact HB.out)⟩
   ·replace c6 := Bool.eq_false_iff.mpr c6
    subst c6
    have H1 : ((value_Read.f a0).bind fun bt252 => ((moultref1_Read.f kj2 a0).bind fun bt257 => (if (bt252.1 == bt257.1 && (bt252.2.1 == bt257.2.1 && (bt252.2.2.1.toList == bt257.2.2.1.toList))) = true then (some (bt252.2.2.2 == bt257.2.2.2)) else (some false)))) = some r := by rw [if_neg (show ¬ (false = true) by decide)] at H; exact H
    clear H
    have H := H1
    clear H1
    replace H := Option.bind_eq_some_iff.mp H
    obtain ⟨⟨t252, t253, t254, t255⟩, A70, H⟩ := H
    replace H : ((moultref1_Read.f kj2 a0).bind fun bt257 => (if (t252 == bt257.1 && (t253 == bt257.2.1 && (t254.toList == bt257.2.2.1.toList))) = true then (some (t255 == bt257.2.2.2)) else (some false))) = some r := H
    have A7 := Aside0.mk A70
    clear A70
    replace H := Option.bind_eq_some_iff.mp H
    obtain ⟨⟨t257, t258, t259, t260⟩, A80, H⟩ := H
    replace H : (if (t252 == t257 && (t253 == t258 && (t254.toList == t259.toList))) = true then (some (t255 == t260)) else (some false)) = some r := H
    have A8 := Aside0.mk A80
    clear A80
    by_cases c9 : (t252 == t257 && (t253 == t258 && (t254.toList == t259.toList))) = true
    ·rw [if_pos c9] at H
     have c9b0 : (t252 == t257 && (t253 == t258 && (t254.toList == t259.toList))) = true := c9
     (try (have c9p : (t252 = t257 ∧ (t253 = t258 ∧ t254.toList = t259.toList)) = True := eq_true (by simpa using c9)))
     clear c9
     obtain rfl := Option.some.inj H
     go_wp2_with (first | ((with_reducible refine gate_callee (f := 15) rfl ?_); refine goesL_ (some 19) rfl rfl Tryd.func15 (by kernel_rfl) rfl #[.string a0] rfl (by (try simp only [List.map_toArray, List.map_cons, List.map_nil]); first | done | rfl | (simp only [List.length_drop, List.length_take]; rfl)) ?_; (with_reducible refine (value_Read.calls a0 t252 t253 t254 t255 _ A7.out ?hLaid).mono ?_); (case hLaid => exact HG.out.below (by repeat (first | (with_reducible first | exact HB.out | apply below_alloc | apply pw_below_drewN | apply below_drew1) | exact HB.out))); rintro e w10 ⟨rfl, hb⟩; refine ⟨_, rfl, ?_⟩; have n0_ := Aside0.mk (below_step (by repeat (first | (with_reducible first | exact HB.out | apply below_alloc | apply pw_below_drewN | apply below_drew1) | exact HB.out)) hb); clear HB; have HB := n0_; clear n0_; (try clear hb); (try clear hb2); (try clear hk); (try clear hi)) | ((with_reducible refine gate_dst (N := 4) rfl ?_); (try (refine gate_guard (by rfl) ?_; dsimp only)); refine box_event ?hg (N := 4) ?hd (cs := #[.int .i64 0, .int .i64 0, .string (⟨#[]⟩ : ByteArray)]) (t := 23) ?hr ?_; (case hd => rfl); (case hg => rfl); (case hr => first | (go_simp; done) | (go_simp; rfl)); intro gb256 hg w11 hbox hb; have n0_ := Aside0.mk (below_step (by repeat (first | (with_reducible first | exact HB.out | apply below_alloc | apply pw_below_drewN | apply below_drew1) | exact HB.out)) hb); have n1_ := Aside0.mk (hbox); have n2_ := Aside0.mk ((by rw [hg]; exact (below_size (by repeat (first | (with_reducible first | exact HB.out | apply below_alloc | apply pw_below_drewN | apply below_drew1) | exact HB.out))) : w.heap.size ≤ gb256)); have n3_ := Aside0.mk ((by rw [hg]; exact (below_size (by repeat (first | (with_reducible first | exact HB.out | apply below_alloc | apply pw_below_drewN | apply below_drew1) | exact HB.out))) : w.heap.size ≤ gb256)); clear HB; have HB := n0_; have BK256 := n1_; have GW256 := n2_; have GE256 := n3_; clear n0_ n1_ n2_ n3_; clear hb hbox hg; have hcz12_0 : w11.cell? ⟨gb256, 0, none⟩ = some (.int .i64 0) := (blk_cell BK256.out 0).trans rfl; have hcz12_1 : w11.cell? ⟨gb256, 1, none⟩ = some (.int .i64 0) := (blk_cell BK256.out 1).trans rfl; have hcz12_2 : w11.cell? ⟨gb256, 2, none⟩ = some (.string (⟨#[]⟩ : ByteArray)) := (blk_cell BK256.out 2).trans rfl; have hfz12_0 := blk_frozen BK256.out 0; have hfz12_1 := blk_frozen BK256.out 1; have hfz12_2 := blk_frozen BK256.out 2) | ((with_reducible refine gate_callee (f := 16) rfl ?_); refine goesL_ (some 24) rfl rfl Tryd.func16 (by kernel_rfl) rfl #[.string a0] rfl (by (try simp only [List.map_toArray, List.map_cons, List.map_nil]); first | done | rfl | (simp only [List.length_drop, List.length_take]; rfl)) ?_; (with_reducible refine (moultref1_Read.calls kj2 a0 t257 t258 t259 t260 _ A8.out).mono ?_); rintro e w13 ⟨rfl, hb⟩; refine ⟨_, rfl, ?_⟩; have n0_ := Aside0.mk (blk_below (g := gb256) (o := .cells #[.int .i64 t252, .int .i64 t253, .string t254] 23 (0, 0)) (by (with_reducible repeat (first | refine blk_drewN ?_ _ | refine blk_drew ?_ | refine blk_alloc ?_ _)); refine blk_put (cs := #[.int .i64 t252, .int .i64 t253, .string (⟨#[]⟩ : ByteArray)]) ?_ 2 _ rfl; (with_reducible repeat (first | refine blk_drewN ?_ _ | refine blk_drew ?_ | refine blk_alloc ?_ _)); refine blk_put (cs := #[.int .i64 t252, .int .i64 0, .string (⟨#[]⟩ : ByteArray)]) ?_ 1 _ rfl; (with_reducible repeat (first | refine blk_drewN ?_ _ | refine blk_drew ?_ | refine blk_alloc ?_ _)); refine blk_put (cs := #[.int .i64 0, .int .i64 0, .string (⟨#[]⟩ : ByteArray)]) ?_ 0 _ rfl; (with_reducible repeat (first | refine blk_drewN ?_ _ | refine blk_drew ?_ | refine blk_alloc ?_ _)); exact BK256.out) hb); have n1_ := Aside0.mk (below_step (by repeat (first | (with_reducible first | exact HB.out | apply below_alloc | apply pw_below_drewN | apply below_drew1 | refine below_set ?_ GE256.out) | exact HB.out)) hb); clear BK256; clear HB; have BK256 := n0_; have HB := n1_; clear n0_ n1_; (try clear hb); (try clear hb2); (try clear hk); (try clear hi)) | ((with_reducible refine gate_dst (N := 6) rfl ?_); (try (refine gate_guard (by rfl) ?_; dsimp only)); refine box_event ?hg (N := 6) ?hd (cs := #[.int .i64 0, .int .i64 0, .string (⟨#[]⟩ : ByteArray)]) (t := 23) ?hr ?_; (case hd => rfl); (case hg => rfl); (case hr => first | (go_simp; done) | (go_simp; rfl)); intro gb261 hg w14 hbox hb; have n0_ := Aside0.mk (blk_below (g := gb256) (o := .cells #[.int .i64 t252, .int .i64 t253, .string t254] 23 (0, 0)) (by (with_reducible repeat (first | refine blk_drewN ?_ _ | refine blk_drew ?_ | refine blk_alloc ?_ _)); exact BK256.out) hb); have n1_ := Aside0.mk (below_step (by repeat (first | (with_reducible first | exact HB.out | apply below_alloc | apply pw_below_drewN | apply below_drew1 | refine below_set ?_ GE256.out) | exact HB.out)) hb); have n2_ := Aside0.mk (hbox); have n3_ := Aside0.mk ((by rw [hg]; exact (below_size (by repeat (first | (with_reducible first | exact HB.out | apply below_alloc | apply pw_below_drewN | apply below_drew1 | refine below_set ?_ GE256.out) | exact HB.out))) : w.heap.size ≤ gb261)); have n4_ := Aside0.mk ((by rw [hg]; exact (below_size (by repeat (first | (with_reducible first | exact HB.out | apply below_alloc | apply pw_below_drewN | apply below_drew1 | refine below_set ?_ GE256.out) | exact HB.out))) : w.heap.size ≤ gb261)); have n5_ := Aside0.mk ((by rw [hg]; exact Nat.ne_of_lt (blk_lt (g := gb256) (o := .cells #[.int .i64 t252, .int .i64 t253, .string t254] 23 (0, 0)) (by (with_reducible repeat (first | refine blk_drewN ?_ _ | refine blk_drew ?_ | refine blk_alloc ?_ _)); exact BK256.out)) : gb256 ≠ gb261)); have n6_ := Aside0.mk ((by rw [hg]; exact Nat.ne_of_gt (blk_lt (g := gb256) (o := .cells #[.int .i64 t252, .int .i64 t253, .string t254] 23 (0, 0)) (by (with_reducible repeat (first | refine blk_drewN ?_ _ | refine blk_drew ?_ | refine blk_alloc ?_ _)); exact BK256.out)) : gb261 ≠ gb256)); clear BK256; clear HB; have BK256 := n0_; have HB := n1_; have BK261 := n2_; have GW261 := n3_; have GE261 := n4_; have NB256_261 := n5_; have NB261_256 := n6_; clear n0_ n1_ n2_ n3_ n4_ n5_ n6_; clear hb hbox hg; have hnb15 := NB261_256.out; have hnc15 := NB256_261.out; have hcz16_0 : w14.cell? ⟨gb261, 0, none⟩ = some (.int .i64 0) := (blk_cell BK261.out 0).trans rfl; have hcz16_1 : w14.cell? ⟨gb261, 1, none⟩ = some (.int .i64 0) := (blk_cell BK261.out 1).trans rfl; have hcz16_2 : w14.cell? ⟨gb261, 2, none⟩ = some (.string (⟨#[]⟩ : ByteArray)) := (blk_cell BK261.out 2).trans rfl; have hfz16_0 := blk_frozen BK261.out 0; have hfz16_1 := blk_frozen BK261.out 1; have hfz16_2 := blk_frozen BK261.out 2; have hcz17_0 : w14.cell? ⟨gb256, 0, none⟩ = some (.int .i64 t252) := (blk_cell BK256.out 0).trans rfl; have hcz17_1 : w14.cell? ⟨gb256, 1, none⟩ = some (.int .i64 t253) := (blk_cell BK256.out 1).trans rfl; have hcz17_2 : w14.cell? ⟨gb256, 2, none⟩ = some (.string t254) := (blk_cell BK256.out 2).trans rfl; have hfz17_0 := blk_frozen BK256.out 0; have hfz17_1 := blk_frozen BK256.out 1; have hfz17_2 := blk_frozen BK256.out 2))
     go_ret
     exact ⟨by first | rfl | (simp [errW_none, errW_some] <;> rfl) | (simp [*, errW_none, errW_some] <;> rfl), by repeat (first | (with_reducible first | exact HB.out | apply below_alloc | apply pw_below_drewN | apply below_drew1 | refine below_set ?_ GE256.out | refine below_set ?_ GE261.out) | exact HB.out)⟩
    ·rw [if_neg c9] at H
     have c9b0 : (t252 == t257 && (t253 == t258 && (t254.toList == t259.toList))) = false := by simpa using c9
     (try (have c9p : (t252 = t257 ∧ (t253 = t258 ∧ t254.toList = t259.toList)) = False := eq_false (by simpa using c9)))
     clear c9
     obtain rfl := Option.some.inj H
     go_wp2_with (first | ((with_reducible refine gate_callee (f := 15) rfl ?_); refine goesL_ (some 19) rfl rfl Tryd.func15 (by kernel_rfl) rfl #[.string a0] rfl (by (try simp only [List.map_toArray, List.map_cons, List.map_nil]); first | done | rfl | (simp only [List.length_drop, List.length_take]; rfl)) ?_; (with_reducible refine (value_Read.calls a0 t252 t253 t254 t255 _ A7.out ?hLaid).mono ?_); (case hLaid => exact HG.out.below (by repeat (first | (with_reducible first | exact HB.out | apply below_alloc | apply pw_below_drewN | apply below_drew1) | exact HB.out))); rintro e w18 ⟨rfl, hb⟩; refine ⟨_, rfl, ?_⟩; have n0_ := Aside0.mk (below_step (by repeat (first | (with_reducible first | exact HB.out | apply below_alloc | apply pw_below_drewN | apply below_drew1) | exact HB.out)) hb); clear HB; have HB := n0_; clear n0_; (try clear hb); (try clear hb2); (try clear hk); (try clear hi)) | ((with_reducible refine gate_dst (N := 4) rfl ?_); (try (refine gate_guard (by rfl) ?_; dsimp only)); refine box_event ?hg (N := 4) ?hd (cs := #[.int .i64 0, .int .i64 0, .string (⟨#[]⟩ : ByteArray)]) (t := 23) ?hr ?_; (case hd => rfl); (case hg => rfl); (case hr => first | (go_simp; done) | (go_simp; rfl)); intro gb256 hg w19 hbox hb; have n0_ := Aside0.mk (below_step (by repeat (first | (with_reducible first | exact HB.out | apply below_alloc | apply pw_below_drewN | apply below_drew1) | exact HB.out)) hb); have n1_ := Aside0.mk (hbox); have n2_ := Aside0.mk ((by rw [hg]; exact (below_size (by repeat (first | (with_reducible first | exact HB.out | apply below_alloc | apply pw_below_drewN | apply below_drew1) | exact HB.out))) : w.heap.size ≤ gb256)); have n3_ := Aside0.mk ((by rw [hg]; exact (below_size (by repeat (first | (with_reducible first | exact HB.out | apply below_alloc | apply pw_below_drewN | apply below_drew1) | exact HB.out))) : w.heap.size ≤ gb256)); clear HB; have HB := n0_; have BK256 := n1_; have GW256 := n2_; have GE256 := n3_; clear n0_ n1_ n2_ n3_; clear hb hbox hg; have hcz20_0 : w19.cell? ⟨gb256, 0, none⟩ = some (.int .i64 0) := (blk_cell BK256.out 0).trans rfl; have hcz20_1 : w19.cell? ⟨gb256, 1, none⟩ = some (.int .i64 0) := (blk_cell BK256.out 1).trans rfl; have hcz20_2 : w19.cell? ⟨gb256, 2, none⟩ = some (.string (⟨#[]⟩ : ByteArray)) := (blk_cell BK256.out 2).trans rfl; have hfz20_0 := blk_frozen BK256.out 0; have hfz20_1 := blk_frozen BK256.out 1; have hfz20_2 := blk_frozen BK256.out 2) | ((with_reducible refine gate_callee (f := 16) rfl ?_); refine goesL_ (some 24) rfl rfl Tryd.func16 (by kernel_rfl) rfl #[.string a0] rfl (by (try simp only [List.map_toArray, List.map_cons, List.map_nil]); first | done | rfl | (simp only [List.length_drop, List.length_take]; rfl)) ?_; (with_reducible refine (moultref1_Read.calls kj2 a0 t257 t258 t259 t260 _ A8.out).mono ?_); rintro e w21 ⟨rfl, hb⟩; refine ⟨_, rfl, ?_⟩; have n0_ := Aside0.mk (blk_below (g := gb256) (o := .cells #[.int .i64 t252, .int .i64 t253, .string t254] 23 (0, 0)) (by (with_reducible repeat (first | refine blk_drewN ?_ _ | refine blk_drew ?_ | refine blk_alloc ?_ _)); refine blk_put (cs := #[.int .i64 t252, .int .i64 t253, .string (⟨#[]⟩ : ByteArray)]) ?_ 2 _ rfl; (with_reducible repeat (first | refine blk_drewN ?_ _ | refine blk_drew ?_ | refine blk_alloc ?_ _)); refine blk_put (cs := #[.int .i64 t252, .int .i64 0, .string (⟨#[]⟩ : ByteArray)]) ?_ 1 _ rfl; (with_reducible repeat (first | refine blk_drewN ?_ _ | refine blk_drew ?_ | refine blk_alloc ?_ _)); refine blk_put (cs := #[.int .i64 0, .int .i64 0, .string (⟨#[]⟩ : ByteArray)]) ?_ 0 _ rfl; (with_reducible repeat (first | refine blk_drewN ?_ _ | refine blk_drew ?_ | refine blk_alloc ?_ _)); exact BK256.out) hb); have n1_ := Aside0.mk (below_step (by repeat (first | (with_reducible first | exact HB.out | apply below_alloc | apply pw_below_drewN | apply below_drew1 | refine below_set ?_ GE256.out) | exact HB.out)) hb); clear BK256; clear HB; have BK256 := n0_; have HB := n1_; clear n0_ n1_; (try clear hb); (try clear hb2); (try clear hk); (try clear hi)) | ((with_reducible refine gate_dst (N := 6) rfl ?_); (try (refine gate_guard (by rfl) ?_; dsimp only)); refine box_event ?hg (N := 6) ?hd (cs := #[.int .i64 0, .int .i64 0, .string (⟨#[]⟩ : ByteArray)]) (t := 23) ?hr ?_; (case hd => rfl); (case hg => rfl); (case hr => first | (go_simp; done) | (go_simp; rfl)); intro gb261 hg w22 hbox hb; have n0_ := Aside0.mk (blk_below (g := gb256) (o := .cells #[.int .i64 t252, .int .i64 t253, .string t254] 23 (0, 0)) (by (with_reducible repeat (first | refine blk_drewN ?_ _ | refine blk_drew ?_ | refine blk_alloc ?_ _)); exact BK256.out) hb); have n1_ := Aside0.mk (below_step (by repeat (first | (with_reducible first | exact HB.out | apply below_alloc | apply pw_below_drewN | apply below_drew1 | refine below_set ?_ GE256.out) | exact HB.out)) hb); have n2_ := Aside0.mk (hbox); have n3_ := Aside0.mk ((by rw [hg]; exact (below_size (by repeat (first | (with_reducible first | exact HB.out | apply below_alloc | apply pw_below_drewN | apply below_drew1 | refine below_set ?_ GE256.out) | exact HB.out))) : w.heap.size ≤ gb261)); have n4_ := Aside0.mk ((by rw [hg]; exact (below_size (by repeat (first | (with_reducible first | exact HB.out | apply below_alloc | apply pw_below_drewN | apply below_drew1 | refine below_set ?_ GE256.out) | exact HB.out))) : w.heap.size ≤ gb261)); have n5_ := Aside0.mk ((by rw [hg]; exact Nat.ne_of_lt (blk_lt (g := gb256) (o := .cells #[.int .i64 t252, .int .i64 t253, .string t254] 23 (0, 0)) (by (with_reducible repeat (first | refine blk_drewN ?_ _ | refine blk_drew ?_ | refine blk_alloc ?_ _)); exact BK256.out)) : gb256 ≠ gb261)); have n6_ := Aside0.mk ((by rw [hg]; exact Nat.ne_of_gt (blk_lt (g := gb256) (o := .cells #[.int .i64 t252, .int .i64 t253, .string t254] 23 (0, 0)) (by (with_reducible repeat (first | refine blk_drewN ?_ _ | refine blk_drew ?_ | refine blk_alloc ?_ _)); exact BK256.out)) : gb261 ≠ gb256)); clear BK256; clear HB; have BK256 := n0_; have HB := n1_; have BK261 := n2_; have GW261 := n3_; have GE261 := n4_; have NB256_261 := n5_; have NB261_256 := n6_; clear n0_ n1_ n2_ n3_ n4_ n5_ n6_; clear hb hbox hg; have hnb23 := NB261_256.out; have hnc23 := NB256_261.out; have hcz24_0 : w22.cell? ⟨gb261, 0, none⟩ = some (.int .i64 0) := (blk_cell BK261.out 0).trans rfl; have hcz24_1 : w22.cell? ⟨gb261, 1, none⟩ = some (.int .i64 0) := (blk_cell BK261.out 1).trans rfl; have hcz24_2 : w22.cell? ⟨gb261, 2, none⟩ = some (.string (⟨#[]⟩ : ByteArray)) := (blk_cell BK261.out 2).trans rfl; have hfz24_0 := blk_frozen BK261.out 0; have hfz24_1 := blk_frozen BK261.out 1; have hfz24_2 := blk_frozen BK261.out 2; have hcz25_0 : w22.cell? ⟨gb256, 0, none⟩ = some (.int .i64 t252) := (blk_cell BK256.out 0).trans rfl; have hcz25_1 : w22.cell? ⟨gb256, 1, none⟩ = some (.int .i64 t253) := (blk_cell BK256.out 1).trans rfl; have hcz25_2 : w22.cell? ⟨gb256, 2, none⟩ = some (.string t254) := (blk_cell BK256.out 2).trans rfl; have hfz25_0 := blk_frozen BK256.out 0; have hfz25_1 := blk_frozen BK256.out 1; have hfz25_2 := blk_frozen BK256.out 2))
     go_ret
     exact ⟨by first | rfl | (simp [errW_none, errW_some] <;> rfl) | (simp [*, errW_none, errW_some] <;> rfl), by repeat (first | (with_reducible first | exact HB.out | apply below_alloc | apply pw_below_drewN | apply below_drew1 | refine below_set ?_ GE256.out | refine below_set ?_ GE261.out) | exact HB.out)⟩

end Go.Proofs.YtnedhbnbhedgeaaDoor.PAll
