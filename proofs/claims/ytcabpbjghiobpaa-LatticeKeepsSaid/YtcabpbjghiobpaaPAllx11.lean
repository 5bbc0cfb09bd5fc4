-- Laid by ownprint.py (a program of the session, in wip/tools), out of the translation: Lean checks it.
import Derived.Test.YtcabpbjghiobpaaPAllx0
import Derived.Test.YtcabpbjghiobpaaPAllx10
namespace Go.Proofs.Ytcabpbjghiobpaa.PAll
open Go.RowKit Go.Proofs.YtcabpbjghiobpaaW.PrintWords Go.Proofs.YtcabpbjghiobpaaW.PrintLast Go.Proofs.YtcabpbjghiobpaaW.PrintMore
attribute [local go_sem] max2_int min2_int max_two min_two max_three min_three max_four min_four   -- for this text's walks alone
set_option linter.unusedVariables false
set_option linter.unusedSimpArgs false

/-! ### moultref1_Compare: function 25 -/
def moultref1_Compare.l0 : Nat → List Int → List Int → Int → Int → Int → ByteArray → Int → Int → ByteArray → Option (Int)
  | 0, _, _, _, _, _, _, _, _, _ => none
  | k + 1, x5, x6, x7, x226000, x226001, x226002, x227000, x227001, x227002 => if x7 < 2 then (if 0 ≤ x7 then (if x7 < (x5.length : Int) then (if x7 < (x6.length : Int) then (if (rd x5 x7) < (rd x6 x7) then (some (-1)) else (if (rd x5 x7) > (rd x6 x7) then (some 1) else (moultref1_Compare.l0 k x5 x6 (wrap64 (x7 + 1)) x226000 x226001 x226002 x227000 x227001 x227002))) else (none)) else (none)) else (none)) else ((moultref1_Bytes.f k x226002 x227002).bind fun t233 => (some t233))
def moultref1_Compare.f (k : Nat) (a0_0 : Int) (a0_1 : Int) (a0_2 : ByteArray) (a1_0 : Int) (a1_1 : Int) (a1_2 : ByteArray) : Option (Int) := moultref1_Compare.l0 k (([a0_0, a0_1] : List Int)) (([a1_0, a1_1] : List Int)) 0 a0_0 a0_1 a0_2 a1_0 a1_1 a1_2
theorem moultref1_Compare.mono_l : ∀ k, (∀ y0 y1 y2 y3 y4 y5 y6 y7 y8, LeO (moultref1_Compare.l0 k y0 y1 y2 y3 y4 y5 y6 y7 y8) (moultref1_Compare.l0 (k + 1) y0 y1 y2 y3 y4 y5 y6 y7 y8))
  | 0 => fun _ _ _ _ _ _ _ _ _ r h => by simp [moultref1_Compare.l0] at h
  | k + 1 => by
    have ih0 := moultref1_Compare.mono_l k
    · intro y0 y1 y2 y3 y4 y5 y6 y7 y8
      unfold moultref1_Compare.l0
      repeat' first
      | (with_reducible exact ih0 _ _ _ _ _ _ _ _ _)
      | (with_reducible exact moultref1_Bytes.mono _ _ _)
      | (with_reducible exact LeO.refl _)
      | (with_reducible exact LeO.none _)
      | (with_reducible refine LeO.ite ?_ ?_)
      | (with_reducible refine LeO.bind ?_ (fun _ => ?_))
      | exact ih0 _ _ _ _ _ _ _ _ _
      | exact moultref1_Bytes.mono _ _ _
      | exact LeO.none _
      | refine LeO.ite ?_ ?_
      | refine LeO.bind ?_ (fun _ => ?_)
theorem moultref1_Compare.mono : ∀ a0 a1 a2 a3 a4 a5 k, LeO (moultref1_Compare.f k a0 a1 a2 a3 a4 a5) (moultref1_Compare.f (k + 1) a0 a1 a2 a3 a4 a5) := by
  intro a0 a1 a2 a3 a4 a5 k
  have ih0 := moultref1_Compare.mono_l k
  unfold moultref1_Compare.f
  repeat' first
      | (with_reducible exact ih0 _ _ _ _ _ _ _ _ _)
      | (with_reducible exact moultref1_Bytes.mono _ _ _)
      | (with_reducible exact LeO.refl _)
      | (with_reducible exact LeO.none _)
      | (with_reducible refine LeO.ite ?_ ?_)
      | (with_reducible refine LeO.bind ?_ (fun _ => ?_))
      | exact ih0 _ _ _ _ _ _ _ _ _
      | exact moultref1_Bytes.mono _ _ _
      | exact LeO.none _
      | refine LeO.ite ?_ ?_
      | refine LeO.bind ?_ (fun _ => ?_)
set_option maxHeartbeats 8000000 in
set_option maxRecDepth 100000 in
theorem moultref1_Compare.calls (k : Nat) (a0_0 : Int) (a0_1 : Int) (a0_2 : ByteArray) (a1_0 : Int) (a1_1 : Int) (a1_2 : ByteArray) (r : Int) (w : World) (h : moultref1_Compare.f k a0_0 a0_1 a0_2 a1_0 a1_1 a1_2 = some r) :
    Calls Try.prog 25 #[.agg #[.int .i64 a0_0, .int .i64 a0_1, .string a0_2], .agg #[.int .i64 a1_0, .int .i64 a1_1, .string a1_2]] w fun e w' => e = .returned (.int .i64 r) ∧ Below w.heap.size w w' := by
  have hu30 := Try.underlying30
  have HB := Aside0.mk (Below.refl w.heap.size w)
  have H : (moultref1_Compare.l0 k (([a0_0, a0_1] : List Int)) (([a1_0, a1_1] : List Int)) 0 a0_0 a0_1 a0_2 a1_0 a1_1 a1_2) = some r := h
  clear h
  obtain ⟨y227, hy227⟩ : ∃ y_ : List Int, y_ = (([a0_0, a0_1] : List Int)) := ⟨_, rfl⟩
  replace H : (moultref1_Compare.l0 k y227 (([a1_0, a1_1] : List Int)) 0 a0_0 a0_1 a0_2 a1_0 a1_1 a1_2) = some r := by first | (rw [hy227]; with_reducible exact H) | (have H2_ := (Option.bind_some _ _).symm.trans H; rw [hy227]; with_reducible exact H2_) | (have H2_ := (Option.bind_some _ _).symm.trans H; with_reducible exact H2_) | with_reducible exact H | (rw [hy227]; exact H) | exact H
  have Ny227 := Aside0.mk hy227
  clear hy227
  obtain ⟨y230, hy230⟩ : ∃ y_ : List Int, y_ = (([a1_0, a1_1] : List Int)) := ⟨_, rfl⟩
  replace H : (moultref1_Compare.l0 k y227 y230 0 a0_0 a0_1 a0_2 a1_0 a1_1 a1_2) = some r := by first | (rw [hy230]; with_reducible exact H) | (have H2_ := (Option.bind_some _ _).symm.trans H; rw [hy230]; with_reducible exact H2_) | (have H2_ := (Option.bind_some _ _).symm.trans H; with_reducible exact H2_) | with_reducible exact H | (rw [hy230]; exact H) | exact H
  have Ny230 := Aside0.mk hy230
  clear hy230
  have H' := Aside0.mk H
  clear H
  go_enter Try.func25, Try.ntmps25
  go_wp2_with (first | ((with_reducible refine gate_dst (N := 2) rfl ?_); refine box_event ?hg (N := 2) ?hd (cs := #[.int .i64 a0_0, .int .i64 a0_1, .string a0_2]) (t := 30) ?hr ?_; (case hd => rfl); (case hg => rfl); (case hr => first | (go_simp; done) | (go_simp; rfl)); intro gb225 hg w3 hbox hb; have n0_ := Aside0.mk (below_step (by repeat (first | (with_reducible first | exact HB.out | apply below_alloc | apply pw_below_drewN | apply below_drew1) | exact HB.out)) hb); have n1_ := Aside0.mk (hbox); have n2_ := Aside0.mk ((by rw [hg]; exact (below_size (by repeat (first | (with_reducible first | exact HB.out | apply below_alloc | apply pw_below_drewN | apply below_drew1) | exact HB.out))) : w.heap.size ≤ gb225)); have n3_ := Aside0.mk ((by rw [hg]; exact (below_size (by repeat (first | (with_reducible first | exact HB.out | apply below_alloc | apply pw_below_drewN | apply below_drew1) | exact HB.out))) : w.heap.size ≤ gb225)); clear HB; have HB := n0_; have BK225 := n1_; have GW225 := n2_; have GE225 := n3_; clear n0_ n1_ n2_ n3_; clear hb hbox hg) | ((with_reducible refine gate_dst (N := 3) rfl ?_); refine box_event ?hg (N := 3) ?hd (cs := #[.int .i64 a1_0, .int .i64 a1_1, .string a1_2]) (t := 30) ?hr ?_; (case hd => rfl); (case hg => rfl); (case hr => first | (go_simp; done) | (go_simp; rfl)); intro gb226 hg w4 hbox hb; have n0_ := Aside0.mk (blk_below (g := gb225) (o := .cells #[.int .i64 a0_0, .int .i64 a0_1, .string a0_2] 30 (0, 0)) (by (with_reducible repeat (first | refine blk_drewN ?_ _ | refine blk_drew ?_ | refine blk_alloc ?_ _)); exact BK225.out) hb); have n1_ := Aside0.mk (below_step (by repeat (first | (with_reducible first | exact HB.out | apply below_alloc | apply pw_below_drewN | apply below_drew1 | refine below_set ?_ GE225.out) | exact HB.out)) hb); have n2_ := Aside0.mk (hbox); have n3_ := Aside0.mk ((by rw [hg]; exact (below_size (by repeat (first | (with_reducible first | exact HB.out | apply below_alloc | apply pw_below_drewN | apply below_drew1 | refine below_set ?_ GE225.out) | exact HB.out))) : w.heap.size ≤ gb226)); have n4_ := Aside0.mk ((by rw [hg]; exact (below_size (by repeat (first | (with_reducible first | exact HB.out | apply below_alloc | apply pw_below_drewN | apply below_drew1 | refine below_set ?_ GE225.out) | exact HB.out))) : w.heap.size ≤ gb226)); have n5_ := Aside0.mk ((by rw [hg]; exact Nat.ne_of_lt (blk_lt (g := gb225) (o := .cells #[.int .i64 a0_0, .int .i64 a0_1, .string a0_2] 30 (0, 0)) (by (with_reducible repeat (first | refine blk_drewN ?_ _ | refine blk_drew ?_ | refine blk_alloc ?_ _)); exact BK225.out)) : gb225 ≠ gb226)); have n6_ := Aside0.mk ((by rw [hg]; exact Nat.ne_of_gt (blk_lt (g := gb225) (o := .cells #[.int .i64 a0_0, .int .i64 a0_1, .string a0_2] 30 (0, 0)) (by (with_reducible repeat (first | refine blk_drewN ?_ _ | refine blk_drew ?_ | refine blk_alloc ?_ _)); exact BK225.out)) : gb226 ≠ gb225)); clear BK225; clear HB; have BK225 := n0_; have HB := n1_; have BK226 := n2_; have GW226 := n3_; have GE226 := n4_; have NB225_226 := n5_; have NB226_225 := n6_; clear n0_ n1_ n2_ n3_ n4_ n5_ n6_; clear hb hbox hg; have hnb5 := NB225_226.out; have hnc5 := NB226_225.out; have hcz6_0 : w4.cell? ⟨gb225, 0, none⟩ = some (.int .i64 a0_0) := (blk_cell BK225.out 0).trans rfl; have hcz6_1 : w4.cell? ⟨gb225, 1, none⟩ = some (.int .i64 a0_1) := (blk_cell BK225.out 1).trans rfl; have hcz6_2 : w4.cell? ⟨gb225, 2, none⟩ = some (.string a0_2) := (blk_cell BK225.out 2).trans rfl; have hfz6_0 := blk_frozen BK225.out 0; have hfz6_1 := blk_frozen BK225.out 1; have hfz6_2 := blk_frozen BK225.out 2) | ((with_reducible refine gate_dst (N := 12) rfl ?_); refine Kd.R_lit (Kd.int .i64) _ 3 ?hg (N := 12) ?hd (xs := ([a0_0, a0_1] : List Int)) (inner := [.int .i64 a0_0, .int .i64 a0_1]) (ok := fun _ => True) (okp := fun _ => True) ?hr ?hp (fun _ hk => hk) trivial (Below.refl _ _) (Nat.le_refl _) (by simp) ?_; (case hd => rfl); (case hg => rfl); (case hr => first | (go_simp; done) | (go_simp; rfl)); (case hp => exact (Reps.one (show Kd.M (Kd.int .i64) _ _ _ a0_0 [.int .i64 a0_0] from rfl) (Reps.one (show Kd.M (Kd.int .i64) _ _ _ a0_1 [.int .i64 a0_1] from rfl) (Reps.none _ _)))); intro v228 w7 ho8 hb hg_ hnew_; clear hg_ hnew_; (first | rw [← Ny227.out] at ho8 | (simp only [Int.reduceToNat] at ho8; rw [← Ny227.out] at ho8)); have n0_ := Aside0.mk (Kd.R_lower ho8 (below_size (by repeat (first | (with_reducible first | exact HB.out | apply below_alloc | apply pw_below_drewN | apply below_drew1 | refine below_set ?_ GE225.out | refine below_set ?_ GE226.out) | exact HB.out)))); have n1_ := Aside0.mk (blk_below (g := gb225) (o := .cells #[.int .i64 a0_0, .int .i64 a0_1, .string a0_2] 30 (0, 0)) (by (with_reducible repeat (first | refine blk_drewN ?_ _ | refine blk_drew ?_ | refine blk_alloc ?_ _)); exact BK225.out) hb); have n2_ := Aside0.mk (blk_below (g := gb226) (o := .cells #[.int .i64 a1_0, .int .i64 a1_1, .string a1_2] 30 (0, 0)) (by (with_reducible repeat (first | refine blk_drewN ?_ _ | refine blk_drew ?_ | refine blk_alloc ?_ _)); exact BK226.out) hb); have n3_ := Aside0.mk (below_step (by repeat (first | (with_reducible first | exact HB.out | apply below_alloc | apply pw_below_drewN | apply below_drew1 | refine below_set ?_ GE225.out | refine below_set ?_ GE226.out) | exact HB.out)) hb); clear BK225; clear BK226; clear HB; have HO229 := n0_; have BK225 := n1_; have BK226 := n2_; have HB := n3_; clear n0_ n1_ n2_ n3_; clear hb ho8; have hcz9_0 : w7.cell? ⟨gb226, 0, none⟩ = some (.int .i64 a1_0) := (blk_cell BK226.out 0).trans rfl; have hcz9_1 : w7.cell? ⟨gb226, 1, none⟩ = some (.int .i64 a1_1) := (blk_cell BK226.out 1).trans rfl; have hcz9_2 : w7.cell? ⟨gb226, 2, none⟩ = some (.string a1_2) := (blk_cell BK226.out 2).trans rfl; have hfz9_0 := blk_frozen BK226.out 0; have hfz9_1 := blk_frozen BK226.out 1; have hfz9_2 := blk_frozen BK226.out 2) | ((with_reducible refine gate_dst (N := 17) rfl ?_); refine Kd.R_lit (Kd.int .i64) _ 3 ?hg (N := 17) ?hd (xs := ([a1_0, a1_1] : List Int)) (inner := [.int .i64 a1_0, .int .i64 a1_1]) (ok := fun _ => True) (okp := fun _ => True) ?hr ?hp (fun _ hk => hk) trivial (Below.refl _ _) (Nat.le_refl _) (by simp) ?_; (case hd => rfl); (case hg => rfl); (case hr => first | (go_simp; done) | (go_simp; rfl)); (case hp => exact (Reps.one (show Kd.M (Kd.int .i64) _ _ _ a1_0 [.int .i64 a1_0] from rfl) (Reps.one (show Kd.M (Kd.int .i64) _ _ _ a1_1 [.int .i64 a1_1] from rfl) (Reps.none _ _)))); intro v231 w10 ho11 hb hg_ hnew_; clear hg_ hnew_; (first | rw [← Ny230.out] at ho11 | (simp only [Int.reduceToNat] at ho11; rw [← Ny230.out] at ho11)); have n0_ := Aside0.mk (Kd.R_elder' (by (with_reducible repeat (first | apply Kd.R_alloc | apply Kd.R_drewN | apply Kd.R_drew)); exact HO229.out) (Kd.R_base ho11) hb); have n1_ := Aside0.mk (Kd.R_lower (Kd.R_new' ho11 (Kd.R_lt (by (with_reducible repeat (first | apply Kd.R_alloc | apply Kd.R_drewN | apply Kd.R_drew)); exact HO229.out))) (below_size (by repeat (first | (with_reducible first | exact HB.out | apply below_alloc | apply pw_below_drewN | apply below_drew1 | refine below_set ?_ GE225.out | refine below_set ?_ GE226.out) | exact HB.out)))); have n2_ := Aside0.mk (blk_below (g := gb225) (o := .cells #[.int .i64 a0_0, .int .i64 a0_1, .string a0_2] 30 (0, 0)) (by (with_reducible repeat (first | refine blk_drewN ?_ _ | refine blk_drew ?_ | refine blk_alloc ?_ _)); exact BK225.out) hb); have n3_ := Aside0.mk (blk_below (g := gb226) (o := .cells #[.int .i64 a1_0, .int .i64 a1_1, .string a1_2] 30 (0, 0)) (by (with_reducible repeat (first | refine blk_drewN ?_ _ | refine blk_drew ?_ | refine blk_alloc ?_ _)); exact BK226.out) hb); have n4_ := Aside0.mk (below_step (by repeat (first | (with_reducible first | exact HB.out | apply below_alloc | apply pw_below_drewN | apply below_drew1 | refine below_set ?_ GE225.out | refine below_set ?_ GE226.out) | exact HB.out)) hb); clear HO229; clear BK225; clear BK226; clear HB; have HO229 := n0_; have HO232 := n1_; have BK225 := n2_; have BK226 := n3_; have HB := n4_; clear n0_ n1_ n2_ n3_ n4_; clear hb ho11))
  repeat (go_quiet (first | ((with_reducible refine gate_dst (N := 2) rfl ?_); refine box_event ?hg (N := 2) ?hd (cs := #[.int .i64 a0_0, .int .i64 a0_1, .string a0_2]) (t := 30) ?hr ?_; (case hd => rfl); (case hg => rfl); (case hr => first | (go_simp; done) | (go_simp; rfl)); intro gb225 hg w3 hbox hb; have n0_ := Aside0.mk (below_step (by repeat (first | (with_reducible first | exact HB.out | apply below_alloc | apply pw_below_drewN | apply below_drew1) | exact HB.out)) hb); have n1_ := Aside0.mk (hbox); have n2_ := Aside0.mk ((by rw [hg]; exact (below_size (by repeat (first | (with_reducible first | exact HB.out | apply below_alloc | apply pw_below_drewN | apply below_drew1) | exact HB.out))) : w.heap.size ≤ gb225)); have n3_ := Aside0.mk ((by rw [hg]; exact (below_size (by repeat (first | (with_reducible first | exact HB.out | apply below_alloc | apply pw_below_drewN | apply below_drew1) | exact HB.out))) : w.heap.size ≤ gb225)); clear HB; have HB := n0_; have BK225 := n1_; have GW225 := n2_; have GE225 := n3_; clear n0_ n1_ n2_ n3_; clear hb hbox hg) | ((with_reducible refine gate_dst (N := 3) rfl ?_); refine box_event ?hg (N := 3) ?hd (cs := #[.int .i64 a1_0, .int .i64 a1_1, .string a1_2]) (t := 30) ?hr ?_; (case hd => rfl); (case hg => rfl); (case hr => first | (go_simp; done) | (go_simp; rfl)); intro gb226 hg w4 hbox hb; have n0_ := Aside0.mk (blk_below (g := gb225) (o := .cells #[.int .i64 a0_0, .int .i64 a0_1, .string a0_2] 30 (0, 0)) (by (with_reducible repeat (first | refine blk_drewN ?_ _ | refine blk_drew ?_ | refine blk_alloc ?_ _)); exact BK225.out) hb); have n1_ := Aside0.mk (below_step (by repeat (first | (with_reducible first | exact HB.out | apply below_alloc | apply pw_below_drewN | apply below_drew1 | refine below_set ?_ GE225.out) | exact HB.out)) hb); have n2_ := Aside0.mk (hbox); have n3_ := Aside0.mk ((by rw [hg]; exact (below_size (by repeat (first | (with_reducible first | exact HB.out | apply below_alloc | apply pw_below_drewN | apply below_drew1 | refine below_set ?_ GE225.out) | exact HB.out))) : w.heap.size ≤ gb226)); have n4_ := Aside0.mk ((by rw [hg]; exact (below_size (by repeat (first | (with_reducible first | exact HB.out | apply below_alloc | apply pw_below_drewN | apply below_drew1 | refine below_set ?_ GE225.out) | exact HB.out))) : w.heap.size ≤ gb226)); have n5_ := Aside0.mk ((by rw [hg]; exact Nat.ne_of_lt (blk_lt (g := gb225) (o := .cells #[.int .i64 a0_0, .int .i64 a0_1, .string a0_2] 30 (0, 0)) (by (with_reducible repeat (first | refine blk_drewN ?_ _ | refine blk_drew ?_ | refine blk_alloc ?_ _)); exact BK225.out)) : gb225 ≠ gb226)); have n6_ := Aside0.mk ((by rw [hg]; exact Nat.ne_of_gt (blk_lt (g := gb225) (o := .cells #[.int .i64 a0_0, .int .i64 a0_1, .string a0_2] 30 (0, 0)) (by (with_reducible repeat (first | refine blk_drewN ?_ _ | refine blk_drew ?_ | refine blk_alloc ?_ _)); exact BK225.out)) : gb226 ≠ gb225)); clear BK225; clear HB; have BK225 := n0_; have HB := n1_; have BK226 := n2_; have GW226 := n3_; have GE226 := n4_; have NB225_226 := n5_; have NB226_225 := n6_; clear n0_ n1_ n2_ n3_ n4_ n5_ n6_; clear hb hbox hg; have hnb5 := NB225_226.out; have hnc5 := NB226_225.out; have hcz6_0 : w4.cell? ⟨gb225, 0, none⟩ = some (.int .i64 a0_0) := (blk_cell BK225.out 0).trans rfl; have hcz6_1 : w4.cell? ⟨gb225, 1, none⟩ = some (.int .i64 a0_1) := (blk_cell BK225.out 1).trans rfl; have hcz6_2 : w4.cell? ⟨gb225, 2, none⟩ = some (.string a0_2) := (blk_cell BK225.out 2).trans rfl; have hfz6_0 := blk_frozen BK225.out 0; have hfz6_1 := blk_frozen BK225.out 1; have hfz6_2 := blk_frozen BK225.out 2) | ((with_reducible refine gate_dst (N := 12) rfl ?_); refine Kd.R_lit (Kd.int .i64) _ 3 ?hg (N := 12) ?hd (xs := ([a0_0, a0_1] : List Int)) (inner := [.int .i64 a0_0, .int .i64 a0_1]) (ok := fun _ => True) (okp := fun _ => True) ?hr ?hp (fun _ hk => hk) trivial (Below.refl _ _) (Nat.le_refl _) (by simp) ?_; (case hd => rfl); (case hg => rfl); (case hr => first | (go_simp; done) | (go_simp; rfl)); (case hp => exact (Reps.one (show Kd.M (Kd.int .i64) _ _ _ a0_0 [.int .i64 a0_0] from rfl) (Reps.one (show Kd.M (Kd.int .i64) _ _ _ a0_1 [.int .i64 a0_1] from rfl) (Reps.none _ _)))); intro v228 w7 ho8 hb hg_ hnew_; clear hg_ hnew_; (first | rw [← Ny227.out] at ho8 | (simp only [Int.reduceToNat] at ho8; rw [← Ny227.out] at ho8)); have n0_ := Aside0.mk (Kd.R_lower ho8 (below_size (by repeat (first | (with_reducible first | exact HB.out | apply below_alloc | apply pw_below_drewN | apply below_drew1 | refine below_set ?_ GE225.out | refine below_set ?_ GE226.out) | exact HB.out)))); have n1_ := Aside0.mk (blk_below (g := gb225) (o := .cells #[.int .i64 a0_0, .int .i64 a0_1, .string a0_2] 30 (0, 0)) (by (with_reducible repeat (first | refine blk_drewN ?_ _ | refine blk_drew ?_ | refine blk_alloc ?_ _)); exact BK225.out) hb); have n2_ := Aside0.mk (blk_below (g := gb226) (o := .cells #[.int .i64 a1_0, .int .i64 a1_1, .string a1_2] 30 (0, 0)) (by (with_reducible repeat (first | refine blk_drewN ?_ _ | refine blk_drew ?_ | refine blk_alloc ?_ _)); exact BK226.out) hb); have n3_ := Aside0.mk (below_step (by repeat (first | (with_reducible first | exact HB.out | apply below_alloc | apply pw_below_drewN | apply below_drew1 | refine below_set ?_ GE225.out | refine below_set ?_ GE226.out) | exact HB.out)) hb); clear BK225; clear BK226; clear HB; have HO229 := n0_; have BK225 := n1_; have BK226 := n2_; have HB := n3_; clear n0_ n1_ n2_ n3_; clear hb ho8; have hcz9_0 : w7.cell? ⟨gb226, 0, none⟩ = some (.int .i64 a1_0) := (blk_cell BK226.out 0).trans rfl; have hcz9_1 : w7.cell? ⟨gb226, 1, none⟩ = some (.int .i64 a1_1) := (blk_cell BK226.out 1).trans rfl; have hcz9_2 : w7.cell? ⟨gb226, 2, none⟩ = some (.string a1_2) := (blk_cell BK226.out 2).trans rfl; have hfz9_0 := blk_frozen BK226.out 0; have hfz9_1 := blk_frozen BK226.out 1; have hfz9_2 := blk_frozen BK226.out 2) | ((with_reducible refine gate_dst (N := 17) rfl ?_); refine Kd.R_lit (Kd.int .i64) _ 3 ?hg (N := 17) ?hd (xs := ([a1_0, a1_1] : List Int)) (inner := [.int .i64 a1_0, .int .i64 a1_1]) (ok := fun _ => True) (okp := fun _ => True) ?hr ?hp (fun _ hk => hk) trivial (Below.refl _ _) (Nat.le_refl _) (by simp) ?_; (case hd => rfl); (case hg => rfl); (case hr => first | (go_simp; done) | (go_simp; rfl)); (case hp => exact (Reps.one (show Kd.M (Kd.int .i64) _ _ _ a1_0 [.int .i64 a1_0] from rfl) (Reps.one (show Kd.M (Kd.int .i64) _ _ _ a1_1 [.int .i64 a1_1] from rfl) (Reps.none _ _)))); intro v231 w10 ho11 hb hg_ hnew_; clear hg_ hnew_; (first | rw [← Ny230.out] at ho11 | (simp only [Int.reduceToNat] at ho11; rw [← Ny230.out] at ho11)); have n0_ := Aside0.mk (Kd.R_elder' (by (with_reducible repeat (first | apply Kd.R_alloc | apply Kd.R_drewN | apply Kd.R_drew)); exact HO229.out) (Kd.R_base ho11) hb); have n1_ := Aside0.mk (Kd.R_lower (Kd.R_new' ho11 (Kd.R_lt (by (with_reducible repeat (first | apply Kd.R_alloc | apply Kd.R_drewN | apply Kd.R_drew)); exact HO229.out))) (below_size (by repeat (first | (with_reducible first | exact HB.out | apply below_alloc | apply pw_below_drewN | apply below_drew1 | refine below_set ?_ GE225.out | refine below_set ?_ GE226.out) | exact HB.out)))); have n2_ := Aside0.mk (blk_below (g := gb225) (o := .cells #[.int .i64 a0_0, .int .i64 a0_1, .string a0_2] 30 (0, 0)) (by (with_reducible repeat (first | refine blk_drewN ?_ _ | refine blk_drew ?_ | refine blk_alloc ?_ _)); exact BK225.out) hb); have n3_ := Aside0.mk (blk_below (g := gb226) (o := .cells #[.int .i64 a1_0, .int .i64 a1_1, .string a1_2] 30 (0, 0)) (by (with_reducible repeat (first | refine blk_drewN ?_ _ | refine blk_drew ?_ | refine blk_alloc ?_ _)); exact BK226.out) hb); have n4_ := Aside0.mk (below_step (by repeat (first | (with_reducible first | exact HB.out | apply below_alloc | apply pw_below_drewN | apply below_drew1 | refine below_set ?_ GE225.out | refine below_set ?_ GE226.out) | exact HB.out)) hb); clear HO229; clear BK225; clear BK226; clear HB; have HO229 := n0_; have HO232 := n1_; have BK225 := n2_; have BK226 := n3_; have HB := n4_; clear n0_ n1_ n2_ n3_ n4_; clear hb ho11)); try go_wp2_with (first | ((with_reducible refine gate_dst (N := 2) rfl ?_); refine box_event ?hg (N := 2) ?hd (cs := #[.int .i64 a0_0, .int .i64 a0_1, .string a0_2]) (t := 30) ?hr ?_; (case hd => rfl); (case hg => rfl); (case hr => first | (go_simp; done) | (go_simp; rfl)); intro gb225 hg w3 hbox hb; have n0_ := Aside0.mk (below_step (by repeat (first | (with_reducible first | exact HB.out | apply below_alloc | apply pw_below_drewN | apply below_drew1) | exact HB.out)) hb); have n1_ := Aside0.mk (hbox); have n2_ := Aside0.mk ((by rw [hg]; exact (below_size (by repeat (first | (with_reducible first | exact HB.out | apply below_alloc | apply pw_below_drewN | apply below_drew1) | exact HB.out))) : w.heap.size ≤ gb225)); have n3_ := Aside0.mk ((by rw [hg]; exact (below_size (by repeat (first | (with_reducible first | exact HB.out | apply below_alloc | apply pw_below_drewN | apply below_drew1) | exact HB.out))) : w.heap.size ≤ gb225)); clear HB; have HB := n0_; have BK225 := n1_; have GW225 := n2_; have GE225 := n3_; clear n0_ n1_ n2_ n3_; clear hb hbox hg) | ((with_reducible refine gate_dst (N := 3) rfl ?_); refine box_event ?hg (N := 3) ?hd (cs := #[.int .i64 a1_0, .int .i64 a1_1, .string a1_2]) (t := 30) ?hr ?_; (case hd => rfl); (case hg => rfl); (case hr => first | (go_simp; done) | (go_simp; rfl)); intro gb226 hg w4 hbox hb; have n0_ := Aside0.mk (blk_below (g := gb225) (o := .cells #[.int .i64 a0_0, .int .i64 a0_1, .string a0_2] 30 (0, 0)) (by (with_reducible repeat (first | refine blk_drewN ?_ _ | refine blk_drew ?_ | refine blk_alloc ?_ _)); exact BK225.out) hb); have n1_ := Aside0.mk (below_step (by repeat (first | (with_reducible first | exact HB.out | apply below_alloc | apply pw_below_drewN | apply below_drew1 | refine below_set ?_ GE225.out) | exact HB.out)) hb); have n2_ := Aside0.mk (hbox); have n3_ := Aside0.mk ((by rw [hg]; exact (below_size (by repeat (first | (with_reducible first | exact HB.out | apply below_alloc | apply pw_below_drewN | apply below_drew1 | refine below_set ?_ GE225.out) | exact HB.out))) : w.heap.size ≤ gb226)); have n4_ := Aside0.mk ((by rw [hg]; exact (below_size (by repeat (first | (with_reducible first | exact HB.out | apply below_alloc | apply pw_below_drewN | apply below_drew1 | refine below_set ?_ GE225.out) | exact HB.out))) : w.heap.size ≤ gb226)); have n5_ := Aside0.mk ((by rw [hg]; exact Nat.ne_of_lt (blk_lt (g := gb225) (o := .cells #[.int .i64 a0_0, .int .i64 a0_1, .string a0_2] 30 (0, 0)) (by (with_reducible repeat (first | refine blk_drewN ?_ _ | refine blk_drew ?_ | refine blk_alloc ?_ _)); exact BK225.out)) : gb225 ≠ gb226)); have n6_ := Aside0.mk ((by rw [hg]; exact Nat.ne_of_gt (blk_lt (g := gb225) (o := .cells #[.int .i64 a0_0, .int .i64 a0_1, .string a0_2] 30 (0, 0)) (by (with_reducible repeat (first | refine blk_drewN ?_ _ | refine blk_drew ?_ | refine blk_alloc ?_ _)); exact BK225.out)) : gb226 ≠ gb225)); clear BK225; clear HB; have BK225 := n0_; have HB := n1_; have BK226 := n2_; have GW226 := n3_; have GE226 := n4_; have NB225_226 := n5_; have NB226_225 := n6_; clear n0_ n1_ n2_ n3_ n4_ n5_ n6_; clear hb hbox hg; have hnb5 := NB225_226.out; have hnc5 := NB226_225.out; have hcz6_0 : w4.cell? ⟨gb225, 0, none⟩ = some (.int .i64 a0_0) := (blk_cell BK225.out 0).trans rfl; have hcz6_1 : w4.cell? ⟨gb225, 1, none⟩ = some (.int .i64 a0_1) := (blk_cell BK225.out 1).trans rfl; have hcz6_2 : w4.cell? ⟨gb225, 2, none⟩ = some (.string a0_2) := (blk_cell BK225.out 2).trans rfl; have hfz6_0 := blk_frozen BK225.out 0; have hfz6_1 := blk_frozen BK225.out 1; have hfz6_2 := blk_frozen BK225.out 2) | ((with_reducible refine gate_dst (N := 12) rfl ?_); refine Kd.R_lit (Kd.int .i64) _ 3 ?hg (N := 12) ?hd (xs := ([a0_0, a0_1] : List Int)) (inner := [.int .i64 a0_0, .int .i64 a0_1]) (ok := fun _ => True) (okp := fun _ => True) ?hr ?hp (fun _ hk => hk) trivial (Below.refl _ _) (Nat.le_refl _) (by simp) ?_; (case hd => rfl); (case hg => rfl); (case hr => first | (go_simp; done) | (go_simp; rfl)); (case hp => exact (Reps.one (show Kd.M (Kd.int .i64) _ _ _ a0_0 [.int .i64 a0_0] from rfl) (Reps.one (show Kd.M (Kd.int .i64) _ _ _ a0_1 [.int .i64 a0_1] from rfl) (Reps.none _ _)))); intro v228 w7 ho8 hb hg_ hnew_; clear hg_ hnew_; (first | rw [← Ny227.out] at ho8 | (simp only [Int.reduceToNat] at ho8; rw [← Ny227.out] at ho8)); have n0_ := Aside0.mk (Kd.R_lower ho8 (below_size (by repeat (first | (with_reducible first | exact HB.out | apply below_alloc | apply pw_below_drewN | apply below_drew1 | refine below_set ?_ GE225.out | refine below_set ?_ GE226.out) | exact HB.out)))); have n1_ := Aside0.mk (blk_below (g := gb225) (o := .cells #[.int .i64 a0_0, .int .i64 a0_1, .string a0_2] 30 (0, 0)) (by (with_reducible repeat (first | refine blk_drewN ?_ _ | refine blk_drew ?_ | refine blk_alloc ?_ _)); exact BK225.out) hb); have n2_ := Aside0.mk (blk_below (g := gb226) (o := .cells #[.int .i64 a1_0, .int .i64 a1_1, .string a1_2] 30 (0, 0)) (by (with_reducible repeat (first | refine blk_drewN ?_ _ | refine blk_drew ?_ | refine blk_alloc ?_ _)); exact BK226.out) hb); have n3_ := Aside0.mk (below_step (by repeat (first | (with_reducible first | exact HB.out | apply below_alloc | apply pw_below_drewN | apply below_drew1 | refine below_set ?_ GE225.out | refine below_set ?_ GE226.out) | exact HB.out)) hb); clear BK225; clear BK226; clear HB; have HO229 := n0_; have BK225 := n1_; have BK226 := n2_; have HB := n3_; clear n0_ n1_ n2_ n3_; clear hb ho8; have hcz9_0 : w7.cell? ⟨gb226, 0, none⟩ = some (.int .i64 a1_0) := (blk_cell BK226.out 0).trans rfl; have hcz9_1 : w7.cell? ⟨gb226, 1, none⟩ = some (.int .i64 a1_1) := (blk_cell BK226.out 1).trans rfl; have hcz9_2 : w7.cell? ⟨gb226, 2, none⟩ = some (.string a1_2) := (blk_cell BK226.out 2).trans rfl; have hfz9_0 := blk_frozen BK226.out 0; have hfz9_1 := blk_frozen BK226.out 1; have hfz9_2 := blk_frozen BK226.out 2) | ((with_reducible refine gate_dst (N := 17) rfl ?_); refine Kd.R_lit (Kd.int .i64) _ 3 ?hg (N := 17) ?hd (xs := ([a1_0, a1_1] : List Int)) (inner := [.int .i64 a1_0, .int .i64 a1_1]) (ok := fun _ => True) (okp := fun _ => True) ?hr ?hp (fun _ hk => hk) trivial (Below.refl _ _) (Nat.le_refl _) (by simp) ?_; (case hd => rfl); (case hg => rfl); (case hr => first | (go_simp; done) | (go_simp; rfl)); (case hp => exact (Reps.one (show Kd.M (Kd.int .i64) _ _ _ a1_0 [.int .i64 a1_0] from rfl) (Reps.one (show Kd.M (Kd.int .i64) _ _ _ a1_1 [.int .i64 a1_1] from rfl) (Reps.none _ _)))); intro v231 w10 ho11 hb hg_ hnew_; clear hg_ hnew_; (first | rw [← Ny230.out] at ho11 | (simp only [Int.reduceToNat] at ho11; rw [← Ny230.out] at ho11)); have n0_ := Aside0.mk (Kd.R_elder' (by (with_reducible repeat (first | apply Kd.R_alloc | apply Kd.R_drewN | apply Kd.R_drew)); exact HO229.out) (Kd.R_base ho11) hb); have n1_ := Aside0.mk (Kd.R_lower (Kd.R_new' ho11 (Kd.R_lt (by (with_reducible repeat (first | apply Kd.R_alloc | apply Kd.R_drewN | apply Kd.R_drew)); exact HO229.out))) (below_size (by repeat (first | (with_reducible first | exact HB.out | apply below_alloc | apply pw_below_drewN | apply below_drew1 | refine below_set ?_ GE225.out | refine below_set ?_ GE226.out) | exact HB.out)))); have n2_ := Aside0.mk (blk_below (g := gb225) (o := .cells #[.int .i64 a0_0, .int .i64 a0_1, .string a0_2] 30 (0, 0)) (by (with_reducible repeat (first | refine blk_drewN ?_ _ | refine blk_drew ?_ | refine blk_alloc ?_ _)); exact BK225.out) hb); have n3_ := Aside0.mk (blk_below (g := gb226) (o := .cells #[.int .i64 a1_0, .int .i64 a1_1, .string a1_2] 30 (0, 0)) (by (with_reducible repeat (first | refine blk_drewN ?_ _ | refine blk_drew ?_ | refine blk_alloc ?_ _)); exact BK226.out) hb); have n4_ := Aside0.mk (below_step (by repeat (first | (with_reducible first | exact HB.out | apply below_alloc | apply pw_below_drewN | apply below_drew1 | refine below_set ?_ GE225.out | refine below_set ?_ GE226.out) | exact HB.out)) hb); clear HO229; clear BK225; clear BK226; clear HB; have HO229 := n0_; have HO232 := n1_; have BK225 := n2_; have BK226 := n3_; have HB := n4_; clear n0_ n1_ n2_ n3_ n4_; clear hb ho11)))
  go_loopg [7] k (fun kq v7 w' => ∃ (x7_1 : Int), v7 = .int .i64 x7_1 ∧ Aside0 (moultref1_Compare.l0 kq y227 y230 x7_1 a0_0 a0_1 a0_2 a1_0 a1_1 a1_2 = some r) ∧ Aside0 (kq ≤ k) ∧ Aside0 (Kd.R (Kd.int .i64) 3 w' w.heap.size (fun k_ => some k_ ≠ (v231 : Value).ownBlock) v228 y227) ∧ Aside0 (Kd.R (Kd.int .i64) 3 w' w.heap.size (fun k_ => some k_ ≠ (v228 : Value).ownBlock) v231 y230) ∧ Aside0 (w'.heap[gb225]? = some (.cells #[.int .i64 a0_0, .int .i64 a0_1, .string a0_2] 30 (0, 0))) ∧ Aside0 (w'.heap[gb226]? = some (.cells #[.int .i64 a1_0, .int .i64 a1_1, .string a1_2] 30 (0, 0))) ∧ Aside0 (Below w.heap.size w w'))
  case atStart => exact ⟨(0), (by first | rfl | (simp; done) | (simp [*]; done)), H', ⟨Nat.le_refl _⟩, ⟨by (with_reducible repeat (first | apply Kd.R_alloc | apply Kd.R_drewN | apply Kd.R_drew)); exact Kd.R_mono HO229.out (fun _ hk => hk.2)⟩, ⟨by (with_reducible repeat (first | apply Kd.R_alloc | apply Kd.R_drewN | apply Kd.R_drew)); exact Kd.R_mono HO232.out (fun _ hk => hk.2)⟩, ⟨by (with_reducible repeat (first | refine blk_drewN ?_ _ | refine blk_drew ?_ | refine blk_alloc ?_ _)); exact BK225.out⟩, ⟨by (with_reducible repeat (first | refine blk_drewN ?_ _ | refine blk_drew ?_ | refine blk_alloc ?_ _)); exact BK226.out⟩, ⟨by repeat (first | (with_reducible first | exact HB.out | apply below_alloc | apply pw_below_drewN | apply below_drew1 | refine below_set ?_ GE225.out | refine below_set ?_ GE226.out) | exact HB.out)⟩⟩
  case round =>
    clear H'
    try clear c2
    try clear p2
    try clear c5
    try clear hcz6_0
    try clear hcz6_1
    try clear hcz6_2
    try clear hcz9_0
    try clear hcz9_1
    try clear hcz9_2
    try clear hfz6_0
    try clear hfz6_1
    try clear hfz6_2
    try clear hfz9_0
    try clear hfz9_1
    try clear hfz9_2
    obtain ⟨x7_1, rfl, HA, HK1, HO_5, HO_6, BK225, BK226, HB⟩ := hrel
    cases gk with
    | zero => exact absurd HA.out (by simp [moultref1_Compare.l0])
    | succ k1 =>
      have H := HA.out
      clear HA
      simp only [moultref1_Compare.l0] at H
      by_cases c12 : x7_1 < 2
      · rw [if_pos c12] at H
        have c12b0 : decide (x7_1 < 2) = true := decide_eq_true c12
        clear c12
        by_cases c13 : 0 ≤ x7_1
        · rw [if_pos c13] at H
          have c13b0 : decide (0 ≤ x7_1) = true := decide_eq_true c13
          clear c13
          by_cases c14 : x7_1 < (y227.length : Int)
          · rw [if_pos c14] at H
            have c14b0 : decide (x7_1 < (y227.length : Int)) = true := decide_eq_true c14
            clear c14
            by_cases c15 : x7_1 < (y230.length : Int)
            · rw [if_pos c15] at H
              have c15b0 : decide (x7_1 < (y230.length : Int)) = true := decide_eq_true c15
              clear c15
              by_cases c16 : (rd y227 x7_1) < (rd y230 x7_1)
              · rw [if_pos c16] at H
                have c16b0 : decide ((rd y227 x7_1) < (rd y230 x7_1)) = true := decide_eq_true c16
                clear c16
                obtain rfl := Option.some.inj H
                obtain ⟨Ao17, co17, eo17⟩ := Kd.R_slice HO_5.out
                subst eo17
                have p234 : 0 ≤ (x7_1 : Int) := of_decide_eq_true (by first | (with_reducible assumption) | assumption)
                have q234 : x7_1 < (y227.length : Int) := of_decide_eq_true (by first | (with_reducible assumption) | assumption)
                obtain ⟨ad234, e234, hx234_0⟩ := Kd.at_int (Kd.R_reads' HO_5.out).2.2 x7_1 p234 q234
                cases e234
                replace p234 := eq_true p234
                replace q234 := eq_true q234
                obtain ⟨Ao18, co18, eo18⟩ := Kd.R_slice HO_6.out
                subst eo18
                have p235 : 0 ≤ (x7_1 : Int) := of_decide_eq_true (by first | (with_reducible assumption) | assumption)
                have q235 : x7_1 < (y230.length : Int) := of_decide_eq_true (by first | (with_reducible assumption) | assumption)
                obtain ⟨ad235, e235, hx235_0⟩ := Kd.at_int (Kd.R_reads' HO_6.out).2.2 x7_1 p235 q235
                cases e235
                replace p235 := eq_true p235
                replace q235 := eq_true q235
                go_wp2
                repeat (go_quiet (fail); try go_wp2)
                go_ret
                exact ⟨by first | rfl | (simp [errW_none, errW_some] <;> rfl) | (simp [*, errW_none, errW_some] <;> rfl), by repeat (first | (with_reducible first | exact HB.out | apply below_alloc | apply pw_below_drewN | apply below_drew1 | refine below_set ?_ GE225.out | refine below_set ?_ GE226.out) | exact HB.out)⟩
              · rw [if_neg c16] at H
                have c16b0 : decide ((rd y227 x7_1) < (rd y230 x7_1)) = false := decide_eq_false c16
                clear c16
                by_cases c19 : (rd y227 x7_1) > (rd y230 x7_1)
                · rw [if_pos c19] at H
                  have c19b0 : decide ((rd y230 x7_1) < (rd y227 x7_1)) = true := decide_eq_true c19
                  clear c19
                  obtain rfl := Option.some.inj H
                  obtain ⟨Ao20, co20, eo20⟩ := Kd.R_slice HO_5.out
                  subst eo20
                  have p234 : 0 ≤ (x7_1 : Int) := of_decide_eq_true (by first | (with_reducible assumption) | assumption)
                  have q234 : x7_1 < (y227.length : Int) := of_decide_eq_true (by first | (with_reducible assumption) | assumption)
                  obtain ⟨ad234, e234, hx234_0⟩ := Kd.at_int (Kd.R_reads' HO_5.out).2.2 x7_1 p234 q234
                  cases e234
                  replace p234 := eq_true p234
                  replace q234 := eq_true q234
                  obtain ⟨Ao21, co21, eo21⟩ := Kd.R_slice HO_6.out
                  subst eo21
                  have p235 : 0 ≤ (x7_1 : Int) := of_decide_eq_true (by first | (with_reducible assumption) | assumption)
                  have q235 : x7_1 < (y230.length : Int) := of_decide_eq_true (by first | (with_reducible assumption) | assumption)
                  obtain ⟨ad235, e235, hx235_0⟩ := Kd.at_int (Kd.R_reads' HO_6.out).2.2 x7_1 p235 q235
                  cases e235
                  replace p235 := eq_true p235
                  replace q235 := eq_true q235
                  have p236 : 0 ≤ (x7_1 : Int) := of_decide_eq_true (by first | (with_reducible assumption) | assumption)
                  have q236 : x7_1 < (y227.length : Int) := of_decide_eq_true (by first | (with_reducible assumption) | assumption)
                  obtain ⟨ad236, e236, hx236_0⟩ := Kd.at_int (Kd.R_reads' HO_5.out).2.2 x7_1 p236 q236
                  obtain rfl : ad234 = ad236 := (by injection e236)
                  replace p236 := eq_true p236
                  replace q236 := eq_true q236
                  have p237 : 0 ≤ (x7_1 : Int) := of_decide_eq_true (by first | (with_reducible assumption) | assumption)
                  have q237 : x7_1 < (y230.length : Int) := of_decide_eq_true (by first | (with_reducible assumption) | assumption)
                  obtain ⟨ad237, e237, hx237_0⟩ := Kd.at_int (Kd.R_reads' HO_6.out).2.2 x7_1 p237 q237
                  obtain rfl : ad235 = ad237 := (by injection e237)
                  replace p237 := eq_true p237
                  replace q237 := eq_true q237
                  go_wp2
                  repeat (go_quiet (fail); try go_wp2)
                  go_ret
                  exact ⟨by first | rfl | (simp [errW_none, errW_some] <;> rfl) | (simp [*, errW_none, errW_some] <;> rfl), by repeat (first | (with_reducible first | exact HB.out | apply below_alloc | apply pw_below_drewN | apply below_drew1 | refine below_set ?_ GE225.out | refine below_set ?_ GE226.out) | exact HB.out)⟩
                · rw [if_neg c19] at H
                  have c19b0 : decide ((rd y230 x7_1) < (rd y227 x7_1)) = false := decide_eq_false c19
                  clear c19
                  have H' := Aside0.mk H
                  clear H
                  obtain ⟨Ao22, co22, eo22⟩ := Kd.R_slice HO_5.out
                  subst eo22
                  have p234 : 0 ≤ (x7_1 : Int) := of_decide_eq_true (by first | (with_reducible assumption) | assumption)
                  have q234 : x7_1 < (y227.length : Int) := of_decide_eq_true (by first | (with_reducible assumption) | assumption)
                  obtain ⟨ad234, e234, hx234_0⟩ := Kd.at_int (Kd.R_reads' HO_5.out).2.2 x7_1 p234 q234
                  cases e234
                  replace p234 := eq_true p234
                  replace q234 := eq_true q234
                  obtain ⟨Ao23, co23, eo23⟩ := Kd.R_slice HO_6.out
                  subst eo23
                  have p235 : 0 ≤ (x7_1 : Int) := of_decide_eq_true (by first | (with_reducible assumption) | assumption)
                  have q235 : x7_1 < (y230.length : Int) := of_decide_eq_true (by first | (with_reducible assumption) | assumption)
                  obtain ⟨ad235, e235, hx235_0⟩ := Kd.at_int (Kd.R_reads' HO_6.out).2.2 x7_1 p235 q235
                  cases e235
                  replace p235 := eq_true p235
                  replace q235 := eq_true q235
                  have p236 : 0 ≤ (x7_1 : Int) := of_decide_eq_true (by first | (with_reducible assumption) | assumption)
                  have q236 : x7_1 < (y227.length : Int) := of_decide_eq_true (by first | (with_reducible assumption) | assumption)
                  obtain ⟨ad236, e236, hx236_0⟩ := Kd.at_int (Kd.R_reads' HO_5.out).2.2 x7_1 p236 q236
                  obtain rfl : ad234 = ad236 := (by injection e236)
                  replace p236 := eq_true p236
                  replace q236 := eq_true q236
                  have p237 : 0 ≤ (x7_1 : Int) := of_decide_eq_true (by first | (with_reducible assumption) | assumption)
                  have q237 : x7_1 < (y230.length : Int) := of_decide_eq_true (by first | (with_reducible assumption) | assumption)
                  obtain ⟨ad237, e237, hx237_0⟩ := Kd.at_int (Kd.R_reads' HO_6.out).2.2 x7_1 p237 q237
                  obtain rfl : ad235 = ad237 := (by injection e237)
                  replace p237 := eq_true p237
                  replace q237 := eq_true q237
                  go_wp2
                  repeat (go_quiet (fail); try go_wp2)
                  go_roundg k1
                  case measure => have := HK1.out; omega
                  case rel => exact ⟨(wrap64 (x7_1 + 1)), (by first | rfl | (simp; done) | (simp [*]; done)), H', ⟨by have := HK1.out; omega⟩, ⟨by (with_reducible repeat (first | apply Kd.R_alloc | apply Kd.R_drewN | apply Kd.R_drew)); exact HO_5.out⟩, ⟨by (with_reducible repeat (first | apply Kd.R_alloc | apply Kd.R_drewN | apply Kd.R_drew)); exact HO_6.out⟩, ⟨by (with_reducible repeat (first | refine blk_drewN ?_ _ | refine blk_drew ?_ | refine blk_alloc ?_ _)); exact BK225.out⟩, ⟨by (with_reducible repeat (first | refine blk_drewN ?_ _ | refine blk_drew ?_ | refine blk_alloc ?_ _)); exact BK226.out⟩, ⟨by repeat (first | (with_reducible first | exact HB.out | apply below_alloc | apply pw_below_drewN | apply below_drew1 | refine below_set ?_ GE225.out | refine below_set ?_ GE226.out) | exact HB.out)⟩⟩
            · rw [if_neg c15] at H
              exact absurd H (by simp)
          · rw [if_neg c14] at H
            exact absurd H (by simp)
        · rw [if_neg c13] at H
          exact absurd H (by simp)
      · rw [if_neg c12] at H
        have c12b0 : decide (x7_1 < 2) = false := decide_eq_false c12
        clear c12
        replace H := Option.bind_eq_some_iff.mp H
        obtain ⟨t233, A240, H⟩ := H
        replace H : (some t233) = some r := H
        have A24 := Aside0.mk A240
        clear A240
        obtain rfl := Option.some.inj H
        have hnb25 := NB225_226.out
        have hnc25 := NB226_225.out
        have hcz26_0 : wr.cell? ⟨gb225, 0, none⟩ = some (.int .i64 a0_0) := (blk_cell BK225.out 0).trans rfl
        have hcz26_1 : wr.cell? ⟨gb225, 1, none⟩ = some (.int .i64 a0_1) := (blk_cell BK225.out 1).trans rfl
        have hcz26_2 : wr.cell? ⟨gb225, 2, none⟩ = some (.string a0_2) := (blk_cell BK225.out 2).trans rfl
        have hfz26_0 := blk_frozen BK225.out 0
        have hfz26_1 := blk_frozen BK225.out 1
        have hfz26_2 := blk_frozen BK225.out 2
        have hcz27_0 : wr.cell? ⟨gb226, 0, none⟩ = some (.int .i64 a1_0) := (blk_cell BK226.out 0).trans rfl
        have hcz27_1 : wr.cell? ⟨gb226, 1, none⟩ = some (.int .i64 a1_1) := (blk_cell BK226.out 1).trans rfl
        have hcz27_2 : wr.cell? ⟨gb226, 2, none⟩ = some (.string a1_2) := (blk_cell BK226.out 2).trans rfl
        have hfz27_0 := blk_frozen BK226.out 0
        have hfz27_1 := blk_frozen BK226.out 1
        have hfz27_2 := blk_frozen BK226.out 2
        go_wp2_with (first | (go_at_call 32; (with_reducible refine (moultref1_Bytes.calls k1 a0_2 a1_2 t233 _ A24.out).mono ?_); rintro e w' ⟨rfl, ⟨nd, rfl⟩⟩; (try first | exact ⟨rfl, _, World.drewN_drewN _ _ _⟩ | exact ⟨rfl, _, Eq.trans (World.drewN_drewN _ _ _) (congrArg (World.drewN _) (Nat.add_assoc _ _ _))⟩)))
        repeat (go_quiet (first | (go_at_call 32; (with_reducible refine (moultref1_Bytes.calls k1 a0_2 a1_2 t233 _ A24.out).mono ?_); rintro e w' ⟨rfl, ⟨nd, rfl⟩⟩; (try first | exact ⟨rfl, _, World.drewN_drewN _ _ _⟩ | exact ⟨rfl, _, Eq.trans (World.drewN_drewN _ _ _) (congrArg (World.drewN _) (Nat.add_assoc _ _ _))⟩))); try go_wp2_with (first | (go_at_call 32; (with_reducible refine (moultref1_Bytes.calls k1 a0_2 a1_2 t233 _ A24.out).mono ?_); rintro e w' ⟨rfl, ⟨nd, rfl⟩⟩; (try first | exact ⟨rfl, _, World.drewN_drewN _ _ _⟩ | exact ⟨rfl, _, Eq.trans (World.drewN_drewN _ _ _) (congrArg (World.drewN _) (Nat.add_assoc _ _ _))⟩))))
        go_ret
        exact ⟨by first | rfl | (simp [errW_none, errW_some] <;> rfl) | (simp [*, errW_none, errW_some] <;> rfl), by repeat (first | (with_reducible first | exact HB.out | apply below_alloc | apply pw_below_drewN | apply below_drew1 | refine below_set ?_ GE225.out | refine below_set ?_ GE226.out) | exact HB.out)⟩

end Go.Proofs.Ytcabpbjghiobpaa.PAll
