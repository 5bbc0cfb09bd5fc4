-- Laid by ownprint.py (a program of the session, in wip/tools), out of the translation: Lean checks it.
import Derived.Test.YtnedhbnbhedgeaaDoorPAllx0
import Derived.Test.YtnedhbnbhedgeaaDoorPAllx2
import Derived.Test.YtnedhbnbhedgeaaDoorPAllx3
import Derived.Test.YtnedhbnbhedgeaaDoorPAllx5
import Derived.Test.YtnedhbnbhedgeaaDoorGa
namespace Go.Proofs.YtnedhbnbhedgeaaDoor.PAll
open Go.RowKit Go.Proofs.YtnedhbnbhedgeaaDoorW.PrintWords Go.Proofs.YtnedhbnbhedgeaaDoorW.PrintLast Go.Proofs.YtnedhbnbhedgeaaDoorW.PrintMore
attribute [local go_sem] max2_int min2_int max_two min_two max_three min_three max_four min_four   -- for this text's walks alone
set_option linter.unusedVariables false
set_option linter.unusedSimpArgs false

/-! ### moultlaw1_ValuePrints: function 4 -/
def moultlaw1_ValuePrints.j0 : Nat → Bool → Bool → Int → Int → ByteArray → Option (Bool)
 | 0, _, _, _, _, _ => none
 | k + 1, x3, x12, x212000, x212001, x212002 => if x12 = true then (some x3) else ((value_Print.f x212000 x212001 x212002).bind fun t213 => ((moultref1_Print.f k x212000 x212001 x212002).bind fun t214 => (some (t213.toList == t214.toList))))
def moultlaw1_ValuePrints.f (k : Nat) (a0_0 : Int) (a0_1 : Int) (a0_2 : ByteArray) : Option (Bool) := (moultlaw1_shown.f k).bind fun t212 => (if t212 = true then (moultlaw1_ValuePrints.j0 k t212 (decide ((a0_2.size : Int) > 3000)) a0_0 a0_1 a0_2) else (moultlaw1_ValuePrints.j0 k t212 true a0_0 a0_1 a0_2))
theorem moultlaw1_ValuePrints.mono_l : ∀ k, (∀ y0 y1 y2 y3 y4, LeO (moultlaw1_ValuePrints.j0 k y0 y1 y2 y3 y4) (moultlaw1_ValuePrints.j0 (k + 1) y0 y1 y2 y3 y4))
 | 0 => fun _ _ _ _ _ r h => by simp [moultlaw1_ValuePrints.j0] at h
 | k + 1 => by
  have ih0 := moultlaw1_ValuePrints.mono_l k
  ·intro y0 y1 y2 y3 y4
   unfold moultlaw1_ValuePrints.j0
   repeat' first
   | (with_reducible exact ih0 _ _ _ _ _)
   | (with_reducible exact moultlaw1_shown.mono _)
   | (with_reducible exact moultref1_Print.mono _ _ _ _)
   | (with_reducible exact LeO.refl _)
   | (with_reducible exact LeO.none _)
   | (with_reducible refine LeO.ite ?_ ?_)
   | (with_reducible refine LeO.bind ?_ (fun _ => ?_))
   | exact ih0 _ _ _ _ _
   | exact moultlaw1_shown.mono _
   | exact moultref1_Print.mono _ _ _ _
   | exact LeO.none _
   | refine LeO.ite ?_ ?_
   | refine LeO.bind ?_ (fun _ => ?_)
theorem moultlaw1_ValuePrints.mono : ∀ a0 a1 a2 k, LeO (moultlaw1_ValuePrints.f k a0 a1 a2) (moultlaw1_ValuePrints.f (k + 1) a0 a1 a2) := by
 intro a0 a1 a2 k
 have ih0 := moultlaw1_ValuePrints.mono_l k
 unfold moultlaw1_ValuePrints.f
 repeat' first
   | (with_reducible exact ih0 _ _ _ _ _)
   | (with_reducible exact moultlaw1_shown.mono _)
   | (with_reducible exact moultref1_Print.mono _ _ _ _)
   | (with_reducible exact LeO.refl _)
   | (with_reducible exact LeO.none _)
   | (with_reducible refine LeO.ite ?_ ?_)
   | (with_reducible refine LeO.bind ?_ (fun _ => ?_))
   | exact ih0 _ _ _ _ _
   | exact moultlaw1_shown.mono _
   | exact moultref1_Print.mono _ _ _ _
   | exact LeO.none _
   | refine LeO.ite ?_ ?_
   | refine LeO.bind ?_ (fun _ => ?_)
set_option maxHeartbeats 8000000 in
set_option maxRecDepth 100000 in
theorem moultlaw1_ValuePrints.calls (k : Nat) (a0_0 : Int) (a0_1 : Int) (a0_2 : ByteArray) (r : Bool) (w : World) (h : moultlaw1_ValuePrints.f k a0_0 a0_1 a0_2 = some r) (hG : Laid w) :
  Calls Tryd.prog 4 #[.agg #[.int .i64 a0_0, .int .i64 a0_1, .string a0_2]] w fun e w' => e = .returned (.bool r) ∧ Below w.heap.size w w' := by
 have hu23 := Tryd.underlying23
 have HG := Aside0.mk hG
 clear hG
 have HB := Aside0.mk (Below.refl w.heap.size w)
 have H : ((moultlaw1_shown.f k).bind fun t212 => (if t212 = true then (moultlaw1_ValuePrints.j0 k t212 (decide ((a0_2.size : Int) > 3000)) a0_0 a0_1 a0_2) else (moultlaw1_ValuePrints.j0 k t212 true a0_0 a0_1 a0_2))) = some r := h
 clear h
 replace H := Option.bind_eq_some_iff.mp H
 obtain ⟨t212, A20, H⟩ := H
 replace H : (if t212 = true then (moultlaw1_ValuePrints.j0 k t212 (decide ((a0_2.size : Int) > 3000)) a0_0 a0_1 a0_2) else (moultlaw1_ValuePrints.j0 k t212 true a0_0 a0_1 a0_2)) = some r := H
 have A2 := Aside0.mk A20
 clear A20
 have HC3 := Aside0.mk H
 clear H
 go_enter Tryd.func4, Tryd.ntmps4
 go_upto_region 2 with (first | ((with_reducible refine gate_dst (N := 1) rfl ?_); (try (refine gate_guard (by rfl) ?_; dsimp only)); refine box_event ?hg (N := 1) ?hd (cs := #[.int .i64 a0_0, .int .i64 a0_1, .string a0_2]) (t := 23) ?hr ?_; (case hd => rfl); (case hg => rfl); (case hr => first | (go_simp; done) | (go_simp; rfl)); intro gb211 hg w4 hbox hb; have n0_ := Aside0.mk (below_step (by repeat (first | (with_reducible first | exact HB.out | apply below_alloc | apply pw_below_drewN | apply below_drew1) | exact HB.out)) hb); have n1_ := Aside0.mk (hbox); have n2_ := Aside0.mk ((by rw [hg]; exact (below_size (by repeat (first | (with_reducible first | exact HB.out | apply below_alloc | apply pw_below_drewN | apply below_drew1) | exact HB.out))) : w.heap.size ≤ gb211)); have n3_ := Aside0.mk ((by rw [hg]; exact (below_size (by repeat (first | (with_reducible first | exact HB.out | apply below_alloc | apply pw_below_drewN | apply below_drew1) | exact HB.out))) : w.heap.size ≤ gb211)); clear HB; have HB := n0_; have BK211 := n1_; have GW211 := n2_; have GE211 := n3_; clear n0_ n1_ n2_ n3_; clear hb hbox hg) | ((with_reducible refine gate_callee (f := 10) rfl ?_); refine goesL_ (some 4) rfl rfl Tryd.func10 (by kernel_rfl) rfl #[] rfl (by (try simp only [List.map_toArray, List.map_cons, List.map_nil]); first | done | rfl | (simp only [List.length_drop, List.length_take]; rfl)) ?_; (with_reducible refine (moultlaw1_shown.calls k  t212 _ A2.out ?hLaid).mono ?_); (case hLaid => exact HG.out.below (by repeat (first | (with_reducible first | exact HB.out | apply below_alloc | apply pw_below_drewN | apply below_drew1 | refine below_set ?_ GE211.out) | exact HB.out))); rintro e w5 ⟨rfl, hb⟩; refine ⟨_, rfl, ?_⟩; have n0_ := Aside0.mk (blk_below (g := gb211) (o := .cells #[.int .i64 a0_0, .int .i64 a0_1, .string a0_2] 23 (0, 0)) (by (with_reducible repeat (first | refine blk_drewN ?_ _ | refine blk_drew ?_ | refine blk_alloc ?_ _)); exact BK211.out) hb); have n1_ := Aside0.mk (below_step (by repeat (first | (with_reducible first | exact HB.out | apply below_alloc | apply pw_below_drewN | apply below_drew1 | refine below_set ?_ GE211.out) | exact HB.out)) hb); clear BK211; clear HB; have BK211 := n0_; have HB := n1_; clear n0_ n1_; (try clear hb); (try clear hb2); (try clear hk); (try clear hi)))
 (try simp only [Act.put, List.setIfInBounds_toArray, List.set_cons_zero, List.set_cons_succ])
 go_cut [12] (fun v12 wc => ∃ (kq : Nat) (x12_2 : Bool), v12 = .bool x12_2 ∧ Aside0 (moultlaw1_ValuePrints.j0 kq t212 x12_2 a0_0 a0_1 a0_2 = some r) ∧ Aside0 (kq ≤ k) ∧ Aside0 (wc.heap[gb211]? = some (.cells #[.int .i64 a0_0, .int .i64 a0_1, .string a0_2] 23 (0, 0))) ∧ Aside0 (Below w.heap.size w wc))
 case first =>
  have H := HC3.out
  clear HC3
  by_cases c6 : t212 = true
  ·subst c6
   have H1 : (moultlaw1_ValuePrints.j0 k true (decide ((a0_2.size : Int) > 3000)) a0_0 a0_1 a0_2) = some r := by rw [if_pos rfl] at H; exact H
   clear H
   have H := H1
   clear H1
   have H' := Aside0.mk H
   clear H
   have hcz7_0 : w5.cell? ⟨gb211, 0, none⟩ = some (.int .i64 a0_0) := (blk_cell BK211.out 0).trans rfl
   have hcz7_1 : w5.cell? ⟨gb211, 1, none⟩ = some (.int .i64 a0_1) := (blk_cell BK211.out 1).trans rfl
   have hcz7_2 : w5.cell? ⟨gb211, 2, none⟩ = some (.string a0_2) := (blk_cell BK211.out 2).trans rfl
   have hfz7_0 := blk_frozen BK211.out 0
   have hfz7_1 := blk_frozen BK211.out 1
   have hfz7_2 := blk_frozen BK211.out 2
   go_wp2
   go_meet
   case rel => exact ⟨_, (decide ((a0_2.size : Int) > 3000)), (by first | rfl | (simp; done) | (simp [*]; done)), H', ⟨by first | omega | exact Nat.le_refl _⟩, ⟨by (with_reducible repeat (first | refine blk_drewN ?_ _ | refine blk_drew ?_ | refine blk_alloc ?_ _)); exact BK211.out⟩, ⟨by repeat (first | (with_reducible first | exact HB.out | apply below_alloc | apply pw_below_drewN | apply below_drew1 | refine below_set ?_ GE211.out) | exact HB.out)⟩⟩
  ·replace c6 := Bool.eq_false_iff.mpr c6
   subst c6
   have H1 : (moultlaw1_ValuePrints.j0 k false true a0_0 a0_1 a0_2) = some r := by rw [if_neg (show ¬ (false = true) by decide)] at H; exact H
   clear H
   have H := H1
   clear H1
   have H' := Aside0.mk H
   clear H
   go_wp2
   go_meet
   case rel => exact ⟨_, (true), (by first | rfl | (simp; done) | (simp [*]; done)), H', ⟨by first | omega | exact Nat.le_refl _⟩, ⟨by (with_reducible repeat (first | refine blk_drewN ?_ _ | refine blk_drew ?_ | refine blk_alloc ?_ _)); exact BK211.out⟩, ⟨by repeat (first | (with_reducible first | exact HB.out | apply below_alloc | apply pw_below_drewN | apply below_drew1 | refine below_set ?_ GE211.out) | exact HB.out)⟩⟩
 case rest =>
  clear HC3
  try clear c1
  try clear p2
  try clear c4
  try clear c6
  try clear hcz7_0
  try clear hcz7_1
  try clear hcz7_2
  try clear hfz7_0
  try clear hfz7_1
  try clear hfz7_2
  obtain ⟨kq, x12_2, rfl, HA, HJ2, BK211, HB⟩ := hcut
  cases kq with
  | zero => exact absurd HA.out (by simp [moultlaw1_ValuePrints.j0])
  | succ kj2 =>
   have H := HA.out
   clear HA
   simp only [moultlaw1_ValuePrints.j0] at H
   by_cases c8 : x12_2 = true
   ·subst c8
    have H1 : (some t212) = some r := by rw [if_pos rfl] at H; exact H
    clear H
    have H := H1
    clear H1
    obtain rfl := Option.some.inj H
    go_wp2
    go_ret
    exact ⟨by first | rfl | (simp [errW_none, errW_some] <;> rfl) | (simp [*, errW_none, errW_some] <;> rfl), by repeat (first | (with_reducible first | exact HB.out | apply below_alloc | apply pw_below_drewN | apply below_drew1 | refine below_set ?_ GE211.out) | exact HB.out)⟩
   ·replace c8 := Bool.eq_false_iff.mpr c8
    subst c8
    have H1 : ((value_Print.f a0_0 a0_1 a0_2).bind fun t213 => ((moultref1_Print.f kj2 a0_0 a0_1 a0_2).bind fun t214 => (some (t213.toList == t214.toList)))) = some r := by rw [if_neg (show ¬ (false = true) by decide)] at H; exact H
    clear H
    have H := H1
    clear H1
    replace H := Option.bind_eq_some_iff.mp H
    obtain ⟨t213, A90, H⟩ := H
    replace H : ((moultref1_Print.f kj2 a0_0 a0_1 a0_2).bind fun t214 => (some (t213.toList == t214.toList))) = some r := H
    have A9 := Aside0.mk A90
    clear A90
    replace H := Option.bind_eq_some_iff.mp H
    obtain ⟨t214, A100, H⟩ := H
    replace H : (some (t213.toList == t214.toList)) = some r := H
    have A10 := Aside0.mk A100
    clear A100
    obtain rfl := Option.some.inj H
    try go_wp2
    have n0_ := Aside0.mk (blk_drew BK211.out)
    have n1_ := Aside0.mk (below_drew1 HB.out)
    clear BK211
    clear HB
    have BK211 := n0_
    have HB := n1_
    clear n0_ n1_
    refine start_ (n := 6) (S := fun w' => w'.cell? ⟨gb211, 0, none⟩ = some (.int .i64 a0_0) ∧ w'.cell? ⟨gb211, 1, none⟩ = some (.int .i64 a0_1) ∧ w'.cell? ⟨gb211, 2, none⟩ = some (.string a0_2)) (ds := []) #[false, false, false, false, false, false] (by kernel_rfl) rfl rfl ⟨(blk_cell BK211.out 0).trans rfl, (blk_cell BK211.out 1).trans rfl, (blk_cell BK211.out 2).trans rfl⟩ (fun hHeld => ?_)
    generalize wc.drew = w11 at BK211 HB hHeld ⊢
    refine take_ (i := 0) (N := some 14) (v := ?_) (a' := ?_) #[true, false, false, false, false, false] rfl rfl (by kernel_rfl) (fun _ _ _ h => h) (Or.inl ⟨by rfl, ?_⟩) hHeld ?_ ?_
    rotate_left
    ·rintro w' ⟨s0, s1, s2⟩
     go_simp
     with_reducible rfl
    rotate_left
    ·simp only [Act.put, List.setIfInBounds_toArray, List.set_cons_zero, List.set_cons_succ, i64_w, i32_w]
     rfl
    refine take_ (i := 2) (N := some 16) (v := ?_) (a' := ?_) #[true, false, true, false, false, false] rfl rfl (by kernel_rfl) (fun _ _ _ h => h) (Or.inl ⟨by rfl, ?_⟩) hHeld ?_ ?_
    rotate_left
    ·rintro w' ⟨s0, s1, s2⟩
     go_simp
     with_reducible rfl
    rotate_left
    ·simp only [Act.put, List.setIfInBounds_toArray, List.set_cons_zero, List.set_cons_succ, i64_w, i32_w]
     rfl
    refine one_ (i := 1) (N := some 15) #[true, true, true, false, false, false] rfl rfl (by kernel_rfl) (by decide) (fun K hK => ?_)
    refine goes_ Tryd.func13 (by kernel_rfl) rfl #[.agg #[.int .i64 a0_0, .int .i64 a0_1, .string a0_2]] (by rfl) rfl rfl (by (try simp only [List.map_toArray, List.map_cons, List.map_nil]); first | done | rfl | (simp only [List.length_drop, List.length_take]; rfl)) ?_
    with_reducible refine (value_Print.calls a0_0 a0_1 a0_2 t213 _ A9.out ?hLaid).mono ?_
    case hLaid => exact HG.out.below (by repeat (first | (with_reducible first | exact HB.out | apply below_alloc | apply pw_below_drewN | apply below_drew1 | refine below_set ?_ GE211.out) | exact HB.out))
    rintro e w12 ⟨rfl, hb⟩
    refine ⟨_, rfl, ?_⟩
    have n0_ := Aside0.mk (blk_below (g := gb211) (o := .cells #[.int .i64 a0_0, .int .i64 a0_1, .string a0_2] 23 (0, 0)) (by (with_reducible repeat (first | refine blk_drewN ?_ _ | refine blk_drew ?_ | refine blk_alloc ?_ _)); exact BK211.out) hb)
    have n1_ := Aside0.mk (below_step (by repeat (first | (with_reducible first | exact HB.out | apply below_alloc | apply pw_below_drewN | apply below_drew1 | refine below_set ?_ GE211.out) | exact HB.out)) hb)
    clear BK211
    clear HB
    have BK211 := n0_
    have HB := n1_
    clear n0_ n1_
    (try clear hb)
    (try clear hb2)
    (try clear hk)
    (try clear hi)
    refine hK.out _ _ ⟨(blk_cell BK211.out 0).trans rfl, (blk_cell BK211.out 1).trans rfl, (blk_cell BK211.out 2).trans rfl⟩ (fun hHeld => ?_)
    clear hK K
    refine norm_ (a' := ?_) ?_ ?_
    rotate_left
    ·show Act.put _ (some 15) _ = _
     simp only [Act.put, List.setIfInBounds_toArray, List.set_cons_zero, List.set_cons_succ, i64_w, i32_w]
     rfl
    refine one_ (i := 3) (N := some 17) #[true, true, true, true, false, false] rfl rfl (by kernel_rfl) (by decide) (fun K hK => ?_)
    refine goes_ Tryd.func14 (by kernel_rfl) rfl #[.agg #[.int .i64 a0_0, .int .i64 a0_1, .string a0_2]] (by rfl) rfl rfl (by (try simp only [List.map_toArray, List.map_cons, List.map_nil]); first | done | rfl | (simp only [List.length_drop, List.length_take]; rfl)) ?_
    with_reducible refine (moultref1_Print.calls kj2 a0_0 a0_1 a0_2 t214 _ A10.out).mono ?_
    rintro e w13 ⟨rfl, hb⟩
    refine ⟨_, rfl, ?_⟩
    have n0_ := Aside0.mk (blk_below (g := gb211) (o := .cells #[.int .i64 a0_0, .int .i64 a0_1, .string a0_2] 23 (0, 0)) (by (with_reducible repeat (first | refine blk_drewN ?_ _ | refine blk_drew ?_ | refine blk_alloc ?_ _)); exact BK211.out) hb)
    have n1_ := Aside0.mk (below_step (by repeat (first | (with_reducible first | exact HB.out | apply below_alloc | apply pw_below_drewN | apply below_drew1 | refine below_set ?_ GE211.out) | exact HB.out)) hb)
    clear BK211
    clear HB
    have BK211 := n0_
    have HB := n1_
    clear n0_ n1_
    (try clear hb)
    (try clear hb2)
    (try clear hk)
    (try clear hi)
    refine hK.out _ _ ⟨(blk_cell BK211.out 0).trans rfl, (blk_cell BK211.out 1).trans rfl, (blk_cell BK211.out 2).trans rfl⟩ (fun hHeld => ?_)
    clear hK K
    refine norm_ (a' := ?_) ?_ ?_
    rotate_left
    ·show Act.put _ (some 17) _ = _
     simp only [Act.put, List.setIfInBounds_toArray, List.set_cons_zero, List.set_cons_succ, i64_w, i32_w]
     rfl
    refine pure_ (i := 4) (N := some 18) (v := ?_) (a' := ?_) #[true, true, true, true, true, false] rfl rfl (by kernel_rfl) (fun _ _ _ h => h) (Or.inl ⟨by rfl, ?_⟩) ?_ ?_
    rotate_left
    ·intro w'
     go_simp
     with_reducible rfl
    rotate_left
    ·simp only [Act.put, List.setIfInBounds_toArray, List.set_cons_zero, List.set_cons_succ, i64_w, i32_w]
     rfl
    refine pure_ (i := 5) (N := some 2) (v := ?_) (a' := ?_) #[true, true, true, true, true, true] rfl rfl (by kernel_rfl) (fun _ _ _ h => h) (Or.inl ⟨by rfl, ?_⟩) ?_ ?_
    rotate_left
    ·intro w'
     go_simp
     with_reducible rfl
    rotate_left
    ·simp only [Act.put, List.setIfInBounds_toArray, List.set_cons_zero, List.set_cons_succ, i64_w, i32_w]
     rfl
    refine done_ (by kernel_rfl) ?_
    try go_wp2
    go_ret
    exact ⟨by first | rfl | (simp [errW_none, errW_some] <;> rfl) | (simp [*, errW_none, errW_some] <;> rfl), by repeat (first | (with_reducible first | exact HB.out | apply below_alloc | apply pw_below_drewN | apply below_drew1 | refine below_set ?_ GE211.out) | exact HB.out)⟩

/-! ### moultref1_number: function 29 -/
mutual
def moultref1_number.j0 : Nat → ByteArray → Int → Bool → Option (Int)
 | 0, _, _, _ => none
 | k + 1, x0, x3, x4 => moultref1_number.l0 k x0 x3 x4 0
def moultref1_number.l0 : Nat → ByteArray → Int → Bool → Int → Option (Int)
 | 0, _, _, _, _ => none
 | k + 1, x0, x3, x4, x5 => if x5 < (x0.size : Int) then (if 0 ≤ x5 then (if (bt x0 x5) < 48 then (moultref1_number.j2 k x0 x3 x4 x5 true) else (moultref1_number.j2 k x0 x3 x4 x5 (decide ((bt x0 x5) > 57)))) else (none)) else (if x4 = true then (some x3) else (some (wrap64 (-x3))))
def moultref1_number.j2 : Nat → ByteArray → Int → Bool → Int → Bool → Option (Int)
 | 0, _, _, _, _, _ => none
 | k + 1, x0, x3, x4, x5, x30 => if x30 = true then (moultref1_number.l0 k x0 x3 x4 (wrap64 (x5 + 1))) else (if 0 ≤ x5 then (if x5 < (x0.size : Int) then (if x3 < (-922337203685477580) then (some 0) else (if x3 = (-922337203685477580) then (if (((bt x0 x5) - 48) % 256) > 8 then (some 0) else (if (((bt x0 x5) - 48) % 256) > 7 then (if x4 = true then (moultref1_number.l0 k x0 (wrap64 ((wrap64 (10 * x3)) - (((bt x0 x5) - 48) % 256))) x4 (wrap64 (x5 + 1))) else (some 0)) else (moultref1_number.l0 k x0 (wrap64 ((wrap64 (10 * x3)) - (((bt x0 x5) - 48) % 256))) x4 (wrap64 (x5 + 1))))) else (moultref1_number.l0 k x0 (wrap64 ((wrap64 (10 * x3)) - (((bt x0 x5) - 48) % 256))) x4 (wrap64 (x5 + 1))))) else (none)) else (none))
end
def moultref1_number.f (k : Nat) (a0 : ByteArray) : Option (Int) := if (a0.size : Int) > 0 then (if 0 < (a0.size : Int) then (moultref1_number.j0 k a0 0 ((bt a0 0) == 45)) else (none)) else (moultref1_number.j0 k a0 0 false)
theorem moultref1_number.mono_l : ∀ k, (∀ y0 y1 y2, LeO (moultref1_number.j0 k y0 y1 y2) (moultref1_number.j0 (k + 1) y0 y1 y2)) ∧ (∀ y0 y1 y2 y3, LeO (moultref1_number.l0 k y0 y1 y2 y3) (moultref1_number.l0 (k + 1) y0 y1 y2 y3)) ∧ (∀ y0 y1 y2 y3 y4, LeO (moultref1_number.j2 k y0 y1 y2 y3 y4) (moultref1_number.j2 (k + 1) y0 y1 y2 y3 y4))
 | 0 => ⟨fun _ _ _ r h => by simp [moultref1_number.j0] at h, fun _ _ _ _ r h => by simp [moultref1_number.l0] at h, fun _ _ _ _ _ r h => by simp [moultref1_number.j2] at h⟩
 | k + 1 => by
  obtain ⟨ih0, ih1, ih2⟩ := moultref1_number.mono_l k
  refine ⟨?_, ?_, ?_⟩
  ·intro y0 y1 y2
   unfold moultref1_number.j0
   repeat' first
   | (with_reducible exact ih0 _ _ _)
   | (with_reducible exact ih1 _ _ _ _)
   | (with_reducible exact ih2 _ _ _ _ _)
   | (with_reducible exact LeO.refl _)
   | (with_reducible exact LeO.none _)
   | (with_reducible refine LeO.ite ?_ ?_)
   | (with_reducible refine LeO.bind ?_ (fun _ => ?_))
   | exact ih0 _ _ _
   | exact ih1 _ _ _ _
   | exact ih2 _ _ _ _ _
   | exact LeO.none _
   | refine LeO.ite ?_ ?_
   | refine LeO.bind ?_ (fun _ => ?_)
  ·intro y0 y1 y2 y3
   unfold moultref1_number.l0
   repeat' first
   | (with_reducible exact ih0 _ _ _)
   | (with_reducible exact ih1 _ _ _ _)
   | (with_reducible exact ih2 _ _ _ _ _)
   | (with_reducible exact LeO.refl _)
   | (with_reducible exact LeO.none _)
   | (with_reducible refine LeO.ite ?_ ?_)
   | (with_reducible refine LeO.bind ?_ (fun _ => ?_))
   | exact ih0 _ _ _
   | exact ih1 _ _ _ _
   | exact ih2 _ _ _ _ _
   | exact LeO.none _
   | refine LeO.ite ?_ ?_
   | refine LeO.bind ?_ (fun _ => ?_)
  ·intro y0 y1 y2 y3 y4
   unfold moultref1_number.j2
   repeat' first
   | (with_reducible exact ih0 _ _ _)
   | (with_reducible exact ih1 _ _ _ _)
   | (with_reducible exact ih2 _ _ _ _ _)
   | (with_reducible exact LeO.refl _)
   | (with_reducible exact LeO.none _)
   | (with_reducible refine LeO.ite ?_ ?_)
   | (with_reducible refine LeO.bind ?_ (fun _ => ?_))
   | exact ih0 _ _ _
   | exact ih1 _ _ _ _
   | exact ih2 _ _ _ _ _
   | exact LeO.none _
   | refine LeO.ite ?_ ?_
   | refine LeO.bind ?_ (fun _ => ?_)
theorem moultref1_number.mono : ∀ a0 k, LeO (moultref1_number.f k a0) (moultref1_number.f (k + 1) a0) := by
 intro a0 k
 obtain ⟨ih0, ih1, ih2⟩ := moultref1_number.mono_l k
 unfold moultref1_number.f
 repeat' first
   | (with_reducible exact ih0 _ _ _)
   | (with_reducible exact ih1 _ _ _ _)
   | (with_reducible exact ih2 _ _ _ _ _)
   | (with_reducible exact LeO.refl _)
   | (with_reducible exact LeO.none _)
   | (with_reducible refine LeO.ite ?_ ?_)
   | (with_reducible refine LeO.bind ?_ (fun _ => ?_))
   | exact ih0 _ _ _
   | exact ih1 _ _ _ _
   | exact ih2 _ _ _ _ _
   | exact LeO.none _
   | refine LeO.ite ?_ ?_
   | refine LeO.bind ?_ (fun _ => ?_)
set_option maxHeartbeats 8000000 in
set_option maxRecDepth 100000 in
theorem moultref1_number.calls (k : Nat) (a0 : ByteArray) (r : Int) (w : World) (h : moultref1_number.f k a0 = some r) :
  Calls Tryd.prog 29 #[.string a0] w fun e w' => e = .returned (.int .i64 r) ∧ Drawn0 w w' := by
 have H : (if (a0.size : Int) > 0 then (if 0 < (a0.size : Int) then (moultref1_number.j0 k a0 0 ((bt a0 0) == 45)) else (none)) else (moultref1_number.j0 k a0 0 false)) = some r := h
 clear h
 have HC2 := Aside0.mk H
 clear H
 go_enter Tryd.func29, Tryd.ntmps29
 go_upto_region 2 with (fail)
 go_cut [4] (fun v4 wc => ∃ (kq : Nat) (x4_1 : Bool), v4 = .bool x4_1 ∧ Aside0 (moultref1_number.j0 kq a0 0 x4_1 = some r) ∧ Aside0 (kq ≤ k) ∧ Drawn0 w wc)
 case first =>
  have H := HC2.out
  clear HC2
  by_cases c3 : (a0.size : Int) > 0
  ·rw [if_pos c3] at H
   have c3b0 : decide (0 < (a0.size : Int)) = true := decide_eq_true c3
   have c3b1 : decide (0 < a0.size) = true := decide_eq_true (by omega)
   clear c3
   (first | rw [c3b0] | (simp only [i64_w, i32_w]; rw [c3b0]) | skip)
   by_cases c4 : 0 < (a0.size : Int)
   ·rw [if_pos c4] at H
    have c4b0 : decide (0 < (a0.size : Int)) = true := decide_eq_true c4
    have c4b1 : decide (0 < a0.size) = true := decide_eq_true (by omega)
    clear c4
    have H' := Aside0.mk H
    clear H
    have p5 : 0 ≤ (0 : Int) := (by omega)
    have q5 : 0 < a0.size := (by have : (0 : Int) < (a0.size : Int) := of_decide_eq_true (by first | (with_reducible assumption) | assumption); omega)
    have hx5 : ∀ h : 0 < a0.size, ((a0[0]'h).toNat : Int) = bt a0 0 := bt_at a0 0
    clear p5
    have qi5 : (0 < (a0.size : Int)) = True := eq_true (of_decide_eq_true (by first | (with_reducible assumption) | assumption))
    replace q5 := eq_true q5
    go_wp2
    go_meet
    case rel => exact ⟨_, (((bt a0 0) == 45)), (by first | rfl | (simp; done) | (simp [*]; done)), H', ⟨by first | omega | exact Nat.le_refl _⟩, by repeat (first | exact Drawn0.refl _ | apply Drawn0.step)⟩
   ·rw [if_neg c4] at H
    exact absurd H (by simp)
  ·rw [if_neg c3] at H
   have c3b0 : decide (0 < (a0.size : Int)) = false := decide_eq_false c3
   have c3b1 : decide (0 < a0.size) = false := decide_eq_false (by omega)
   clear c3
   (first | rw [c3b0] | (simp only [i64_w, i32_w]; rw [c3b0]) | skip)
   have H' := Aside0.mk H
   clear H
   go_wp2
   go_meet
   case rel => exact ⟨_, (false), (by first | rfl | (simp; done) | (simp [*]; done)), H', ⟨by first | omega | exact Nat.le_refl _⟩, by repeat (first | exact Drawn0.refl _ | apply Drawn0.step)⟩
 case rest =>
  clear HC2
  try clear c2
  try clear p2
  try clear c3
  try clear c3b0
  try clear c3b1
  try clear c4
  try clear c4b0
  try clear c4b1
  try clear p5
  try clear q5
  try clear hx5
  try clear qi5
  try clear p5
  try clear q5
  obtain ⟨kq, x4_1, rfl, HA, HJ1, ⟨mc1, rfl⟩⟩ := hcut
  cases kq with
  | zero => exact absurd HA.out (by simp [moultref1_number.j0])
  | succ kj1 =>
   have H := HA.out
   clear HA
   simp only [moultref1_number.j0] at H
   have H' := Aside0.mk H
   clear H
   go_wp2
   go_loopg [3, 5] kj1 (fun kq v3 v5 w' => ∃ (x3_2 : Int) (x5_2 : Int), v3 = .int .i64 x3_2 ∧ v5 = .int .i64 x5_2 ∧ Aside0 (moultref1_number.l0 kq a0 x3_2 x4_1 x5_2 = some r) ∧ Aside0 (kq ≤ kj1) ∧ Drawn0 w w')
   case atStart => exact ⟨(0), (0), (by first | rfl | (simp; done) | (simp [*]; done)), (by first | rfl | (simp; done) | (simp [*]; done)), H', ⟨Nat.le_refl _⟩, by repeat (first | exact Drawn0.refl _ | apply Drawn0.step)⟩
   case round =>
    clear H'
    try clear c1
    try clear c2
    try clear p2
    try clear c3
    try clear c3b0
    try clear c3b1
    try clear c4
    try clear c4b0
    try clear c4b1
    try clear p5
    try clear q5
    try clear hx5
    try clear qi5
    try clear p2
    try clear p5
    try clear q5
    obtain ⟨x3_2, x5_2, rfl, rfl, HA, HK2, ⟨m2, rfl⟩⟩ := hrel
    cases gk with
    | zero => exact absurd HA.out (by simp [moultref1_number.l0])
    | succ k2 =>
     have H := HA.out
     clear HA
     simp only [moultref1_number.l0] at H
     by_cases c6 : x5_2 < (a0.size : Int)
     ·rw [if_pos c6] at H
      have c6b0 : decide (x5_2 < (a0.size : Int)) = true := decide_eq_true c6
      clear c6
      have HC7 := Aside0.mk H
      clear H
      go_upto_region 6 with (fail)
      go_cut [30] (fun v30 wc => ∃ (kq : Nat) (x30_6 : Bool), v30 = .bool x30_6 ∧ Aside0 (moultref1_number.j2 kq a0 x3_2 x4_1 x5_2 x30_6 = some r) ∧ Aside0 (kq ≤ k2) ∧ Drawn0 w wc)
      case first =>
       have H := HC7.out
       clear HC7
       by_cases c8 : 0 ≤ x5_2
       ·rw [if_pos c8] at H
        have c8b0 : decide (0 ≤ x5_2) = true := decide_eq_true c8
        clear c8
        (first | rw [c8b0] | (simp only [i64_w, i32_w]; rw [c8b0]) | skip)
        by_cases c10 : (bt a0 x5_2) < 48
        ·rw [if_pos c10] at H
         have c10b0 : decide ((bt a0 x5_2) < 48) = true := decide_eq_true c10
         clear c10
         have H' := Aside0.mk H
         clear H
         have p9 : 0 ≤ (x5_2 : Int) := of_decide_eq_true (by first | (with_reducible assumption) | assumption)
         have q9 : x5_2 < (a0.size : Int) := of_decide_eq_true (by first | (with_reducible assumption) | assumption)
         have hx9 := bt_at a0 x5_2
         replace p9 := eq_true p9
         replace q9 := eq_true q9
         go_wp2
         go_meet
         case rel => exact ⟨_, (true), (by first | rfl | (simp; done) | (simp [*]; done)), H', ⟨by have := HJ1.out; have := HK2.out; first | omega | exact Nat.le_refl _⟩, by repeat (first | exact Drawn0.refl _ | apply Drawn0.step)⟩
        ·rw [if_neg c10] at H
         have c10b0 : decide ((bt a0 x5_2) < 48) = false := decide_eq_false c10
         clear c10
         have H' := Aside0.mk H
         clear H
         have p9 : 0 ≤ (x5_2 : Int) := of_decide_eq_true (by first | (with_reducible assumption) | assumption)
         have q9 : x5_2 < (a0.size : Int) := of_decide_eq_true (by first | (with_reducible assumption) | assumption)
         have hx9 := bt_at a0 x5_2
         replace p9 := eq_true p9
         replace q9 := eq_true q9
         have p11 : 0 ≤ (x5_2 : Int) := of_decide_eq_true (by first | (with_reducible assumption) | assumption)
         have q11 : x5_2 < (a0.size : Int) := of_decide_eq_true (by first | (with_reducible assumption) | assumption)
         have hx11 := bt_at a0 x5_2
         replace p11 := eq_true p11
         replace q11 := eq_true q11
         go_wp2
         go_meet
         case rel => exact ⟨_, (decide ((bt a0 x5_2) > 57)), (by first | rfl | (simp; done) | (simp [*]; done)), H', ⟨by have := HJ1.out; have := HK2.out; first | omega | exact Nat.le_refl _⟩, by repeat (first | exact Drawn0.refl _ | apply Drawn0.step)⟩
       ·rw [if_neg c8] at H
        exact absurd H (by simp)
      case rest =>
       clear HC7
       try clear c1
       try clear p1
       try clear q1
       try clear hx1
       try clear c2
       try clear p2
       try clear c3
       try clear c3b0
       try clear c3b1
       try clear c4
       try clear c4b0
       try clear c4b1
       try clear p5
       try clear q5
       try clear hx5
       try clear qi5
       try clear c6
       try clear c6b0
       try clear c8
       try clear c8b0
       try clear p9
       try clear q9
       try clear hx9
       try clear c10
       try clear c10b0
       try clear p11
       try clear q11
       try clear hx11
       try clear p11
       try clear p2
       try clear p5
       try clear p9
       try clear q11
       try clear q5
       try clear q9
       obtain ⟨kq, x30_6, rfl, HA, HJ6, ⟨mc6, rfl⟩⟩ := hcut
       cases kq with
       | zero => exact absurd HA.out (by simp [moultref1_number.j2])
       | succ kj6 =>
        have H := HA.out
        clear HA
        simp only [moultref1_number.j2] at H
        by_cases c12 : x30_6 = true
        ·subst c12
         have H1 : (moultref1_number.l0 kj6 a0 x3_2 x4_1 (wrap64 (x5_2 + 1))) = some r := by rw [if_pos rfl] at H; exact H
         clear H
         have H := H1
         clear H1
         have H' := Aside0.mk H
         clear H
         go_wp2
         go_roundg kj6
         case measure => have := HJ1.out; have := HK2.out; have := HJ6.out; omega
         case rel => exact ⟨(x3_2), (wrap64 (x5_2 + 1)), (by first | rfl | (simp; done) | (simp [*]; done)), (by first | rfl | (simp; done) | (simp [*]; done)), H', ⟨by have := HJ1.out; have := HK2.out; have := HJ6.out; omega⟩, by repeat (first | exact Drawn0.refl _ | apply Drawn0.step)⟩
        ·replace c12 := Bool.eq_false_iff.mpr c12
         subst c12
         have H1 : (if 0 ≤ x5_2 then (if x5_2 < (a0.size : Int) then (if x3_2 < (-922337203685477580) then (some 0) else (if x3_2 = (-922337203685477580) then (if (((bt a0 x5_2) - 48) % 256) > 8 then (some 0) else (if (((bt a0 x5_2) - 48) % 256) > 7 then (if x4_1 = true then (moultref1_number.l0 kj6 a0 (wrap64 ((wrap64 (10 * x3_2)) - (((bt a0 x5_2) - 48) % 256))) x4_1 (wrap64 (x5_2 + 1))) else (some 0)) else (moultref1_number.l0 kj6 a0 (wrap64 ((wrap64 (10 * x3_2)) - (((bt a0 x5_2) - 48) % 256))) x4_1 (wrap64 (x5_2 + 1))))) else (moultref1_number.l0 kj6 a0 (wrap64 ((wrap64 (10 * x3_2)) - (((bt a0 x5_2) - 48) % 256))) x4_1 (wrap64 (x5_2 + 1))))) else (none)) else (none)) = some r := by rw [if_neg (show ¬ (false = true) by decide)] at H; exact H
         clear H
         have H := H1
         clear H1
         by_cases c13 : 0 ≤ x5_2
         ·rw [if_pos c13] at H
          have c13b0 : decide (0 ≤ x5_2) = true := decide_eq_true c13
          clear c13
          by_cases c14 : x5_2 < (a0.size : Int)
          ·rw [if_pos c14] at H
           have c14b0 : decide (x5_2 < (a0.size : Int)) = true := decide_eq_true c14
           clear c14
           by_cases c16 : x3_2 < (-922337203685477580)
           ·rw [if_pos c16] at H
            have c16b0 : decide (x3_2 < (-922337203685477580)) = true := decide_eq_true c16
            clear c16
            obtain rfl := Option.some.inj H
            have p15 : 0 ≤ (x5_2 : Int) := of_decide_eq_true (by first | (with_reducible assumption) | assumption)
            have q15 : x5_2 < (a0.size : Int) := of_decide_eq_true (by first | (with_reducible assumption) | assumption)
            have hx15 := bt_at a0 x5_2
            replace p15 := eq_true p15
            replace q15 := eq_true q15
            go_wp2
            go_ret
            exact ⟨by first | rfl | (simp; done) | (simp [*]; done), by repeat (first | exact Drawn0.refl _ | apply Drawn0.step)⟩
           ·rw [if_neg c16] at H
            have c16b0 : decide (x3_2 < (-922337203685477580)) = false := decide_eq_false c16
            clear c16
            by_cases c17 : x3_2 = (-922337203685477580)
            ·rw [if_pos c17] at H
             have c17b0 : (x3_2 == (-922337203685477580)) = true := beq_iff_eq.mpr c17
             have c17b1 : (x3_2 != (-922337203685477580)) = false := bne_eq_false_iff_eq.mpr c17
             clear c17
             by_cases c18 : (((bt a0 x5_2) - 48) % 256) > 8
             ·rw [if_pos c18] at H
              have c18b0 : decide (8 < (((bt a0 x5_2) - 48) % 256)) = true := decide_eq_true c18
              clear c18
              obtain rfl := Option.some.inj H
              have p15 : 0 ≤ (x5_2 : Int) := of_decide_eq_true (by first | (with_reducible assumption) | assumption)
              have q15 : x5_2 < (a0.size : Int) := of_decide_eq_true (by first | (with_reducible assumption) | assumption)
              have hx15 := bt_at a0 x5_2
              replace p15 := eq_true p15
              replace q15 := eq_true q15
              go_wp2
              go_ret
              exact ⟨by first | rfl | (simp; done) | (simp [*]; done), by repeat (first | exact Drawn0.refl _ | apply Drawn0.step)⟩
             ·rw [if_neg c18] at H
              have c18b0 : decide (8 < (((bt a0 x5_2) - 48) % 256)) = false := decide_eq_false c18
              clear c18
              by_cases c19 : (((bt a0 x5_2) - 48) % 256) > 7
              ·rw [if_pos c19] at H
               have c19b0 : decide (7 < (((bt a0 x5_2) - 48) % 256)) = true := decide_eq_true c19
               clear c19
               by_cases c20 : x4_1 = true
               ·subst c20
                have H1 : (moultref1_number.l0 kj6 a0 (wrap64 ((wrap64 (10 * x3_2)) - (((bt a0 x5_2) - 48) % 256))) true (wrap64 (x5_2 + 1))) = some r := by rw [if_pos rfl] at H; exact H
                clear H
                have H := H1
                clear H1
                have H' := Aside0.mk H
                clear H
                have p15 : 0 ≤ (x5_2 : Int) := of_decide_eq_true (by first | (with_reducible assumption) | assumption)
                have q15 : x5_2 < (a0.size : Int) := of_decide_eq_true (by first | (with_reducible assumption) | assumption)
                have hx15 := bt_at a0 x5_2
                replace p15 := eq_true p15
                replace q15 := eq_true q15
                go_wp2
                go_roundg kj6
                case measure => have := HJ1.out; have := HK2.out; have := HJ6.out; omega
                case rel => exact ⟨(wrap64 ((wrap64 (10 * x3_2)) - (((bt a0 x5_2) - 48) % 256))), (wrap64 (x5_2 + 1)), (by first | rfl | (simp; done) | (simp [*]; done)), (by first | rfl | (simp; done) | (simp [*]; done)), H', ⟨by have := HJ1.out; have := HK2.out; have := HJ6.out; omega⟩, by repeat (first | exact Drawn0.refl _ | apply Drawn0.step)⟩
               ·replace c20 := Bool.eq_false_iff.mpr c20
                subst c20
                have H1 : (some 0) = some r := by rw [if_neg (show ¬ (false = true) by decide)] at H; exact H
                clear H
                have H := H1
                clear H1
                obtain rfl := Option.some.inj H
                have p15 : 0 ≤ (x5_2 : Int) := of_decide_eq_true (by first | (with_reducible assumption) | assumption)
                have q15 : x5_2 < (a0.size : Int) := of_decide_eq_true (by first | (with_reducible assumption) | assumption)
                have hx15 := bt_at a0 x5_2
                replace p15 := eq_true p15
                replace q15 := eq_true q15
                go_wp2
                go_ret
                exact ⟨by first | rfl | (simp; done) | (simp [*]; done), by repeat (first | exact Drawn0.refl _ | apply Drawn0.step)⟩
              ·rw [if_neg c19] at H
               have c19b0 : decide (7 < (((bt a0 x5_2) - 48) % 256)) = false := decide_eq_false c19
               clear c19
               have H' := Aside0.mk H
               clear H
               have p15 : 0 ≤ (x5_2 : Int) := of_decide_eq_true (by first | (with_reducible assumption) | assumption)
               have q15 : x5_2 < (a0.size : Int) := of_decide_eq_true (by first | (with_reducible assumption) | assumption)
               have hx15 := bt_at a0 x5_2
               replace p15 := eq_true p15
               replace q15 := eq_true q15
               go_wp2
               go_roundg kj6
               case measure => have := HJ1.out; have := HK2.out; have := HJ6.out; omega
               case rel => exact ⟨(wrap64 ((wrap64 (10 * x3_2)) - (((bt a0 x5_2) - 48) % 256))), (wrap64 (x5_2 + 1)), (by first | rfl | (simp; done) | (simp [*]; done)), (by first | rfl | (simp; done) | (simp [*]; done)), H', ⟨by have := HJ1.out; have := HK2.out; have := HJ6.out; omega⟩, by repeat (first | exact Drawn0.refl _ | apply Drawn0.step)⟩
            ·rw [if_neg c17] at H
             have c17b0 : (x3_2 == (-922337203685477580)) = false := beq_eq_false_iff_ne.mpr c17
             have c17b1 : (x3_2 != (-922337203685477580)) = true := bne_iff_ne.mpr c17
             have H' := Aside0.mk H
             clear H
             have p15 : 0 ≤ (x5_2 : Int) := of_decide_eq_true (by first | (with_reducible assumption) | assumption)
             have q15 : x5_2 < (a0.size : Int) := of_decide_eq_true (by first | (with_reducible assumption) | assumption)
             have hx15 := bt_at a0 x5_2
             replace p15 := eq_true p15
             replace q15 := eq_true q15
             go_wp2
             go_roundg kj6
             case measure => have := HJ1.out; have := HK2.out; have := HJ6.out; omega
             case rel => exact ⟨(wrap64 ((wrap64 (10 * x3_2)) - (((bt a0 x5_2) - 48) % 256))), (wrap64 (x5_2 + 1)), (by first | rfl | (simp; done) | (simp [*]; done)), (by first | rfl | (simp; done) | (simp [*]; done)), H', ⟨by have := HJ1.out; have := HK2.out; have := HJ6.out; omega⟩, by repeat (first | exact Drawn0.refl _ | apply Drawn0.step)⟩
          ·rw [if_neg c14] at H
           exact absurd H (by simp)
         ·rw [if_neg c13] at H
          exact absurd H (by simp)
     ·rw [if_neg c6] at H
      have c6b0 : decide (x5_2 < (a0.size : Int)) = false := decide_eq_false c6
      clear c6
      by_cases c21 : x4_1 = true
      ·subst c21
       have H1 : (some x3_2) = some r := by rw [if_pos rfl] at H; exact H
       clear H
       have H := H1
       clear H1
       obtain rfl := Option.some.inj H
       go_wp2
       go_ret
       exact ⟨by first | rfl | (simp; done) | (simp [*]; done), by repeat (first | exact Drawn0.refl _ | apply Drawn0.step)⟩
      ·replace c21 := Bool.eq_false_iff.mpr c21
       subst c21
       have H1 : (some (wrap64 (-x3_2))) = some r := by rw [if_neg (show ¬ (false = true) by decide)] at H; exact H
       clear H
       have H := H1
       clear H1
       obtain rfl := Option.some.inj H
       go_wp2
       go_ret
       exact ⟨by first | rfl | (simp; done) | (simp [*]; done), by repeat (first | exact Drawn0.refl _ | apply Drawn0.step)⟩

/-! ### moultref1_hex: function 42 -/
def moultref1_hex.j0 : Nat → Int → Bool → Option (Int)
 | 0, _, _ => none
 | k + 1, x0, x3 => if x3 = true then (some ((x0 - 48) % 256)) else (if x0 ≥ 97 then (if x0 ≤ 102 then (some (((x0 - 97) % 256) + 10)) else (some (-1))) else (some (-1)))
def moultref1_hex.f (k : Nat) (a0 : Int) : Option (Int) := if a0 ≥ 48 then (moultref1_hex.j0 k a0 (decide (a0 ≤ 57))) else (moultref1_hex.j0 k a0 false)
theorem moultref1_hex.mono_l : ∀ k, (∀ y0 y1, LeO (moultref1_hex.j0 k y0 y1) (moultref1_hex.j0 (k + 1) y0 y1))
 | 0 => fun _ _ r h => by simp [moultref1_hex.j0] at h
 | k + 1 => by
  have ih0 := moultref1_hex.mono_l k
  ·intro y0 y1
   unfold moultref1_hex.j0
   repeat' first
   | (with_reducible exact ih0 _ _)
   | (with_reducible exact LeO.refl _)
   | (with_reducible exact LeO.none _)
   | (with_reducible refine LeO.ite ?_ ?_)
   | (with_reducible refine LeO.bind ?_ (fun _ => ?_))
   | exact ih0 _ _
   | exact LeO.none _
   | refine LeO.ite ?_ ?_
   | refine LeO.bind ?_ (fun _ => ?_)
theorem moultref1_hex.mono : ∀ a0 k, LeO (moultref1_hex.f k a0) (moultref1_hex.f (k + 1) a0) := by
 intro a0 k
 have ih0 := moultref1_hex.mono_l k
 unfold moultref1_hex.f
 repeat' first
   | (with_reducible exact ih0 _ _)
   | (with_reducible exact LeO.refl _)
   | (with_reducible exact LeO.none _)
   | (with_reducible refine LeO.ite ?_ ?_)
   | (with_reducible refine LeO.bind ?_ (fun _ => ?_))
   | exact ih0 _ _
   | exact LeO.none _
   | refine LeO.ite ?_ ?_
   | refine LeO.bind ?_ (fun _ => ?_)
set_option maxHeartbeats 8000000 in
set_option maxRecDepth 100000 in
theorem moultref1_hex.calls (k : Nat) (a0 : Int) (r : Int) (w : World) (h : moultref1_hex.f k a0 = some r) :
  Calls Tryd.prog 42 #[.int .u8 a0] w fun e w' => e = .returned (.int .i64 r) ∧ Drawn0 w w' := by
 have H : (if a0 ≥ 48 then (moultref1_hex.j0 k a0 (decide (a0 ≤ 57))) else (moultref1_hex.j0 k a0 false)) = some r := h
 clear h
 have HC2 := Aside0.mk H
 clear H
 go_enter Tryd.func42, Tryd.ntmps42
 go_upto_region 1 with (fail)
 go_cut [3] (fun v3 wc => ∃ (kq : Nat) (x3_1 : Bool), v3 = .bool x3_1 ∧ Aside0 (moultref1_hex.j0 kq a0 x3_1 = some r) ∧ Aside0 (kq ≤ k) ∧ Drawn0 w wc)
 case first =>
  have H := HC2.out
  clear HC2
  by_cases c3 : a0 ≥ 48
  ·rw [if_pos c3] at H
   have c3b0 : decide (48 ≤ a0) = true := decide_eq_true c3
   clear c3
   (first | rw [c3b0] | (simp only [i64_w, i32_w]; rw [c3b0]) | skip)
   have H' := Aside0.mk H
   clear H
   go_wp2
   go_meet
   case rel => exact ⟨_, (decide (a0 ≤ 57)), (by first | rfl | (simp; done) | (simp [*]; done)), H', ⟨by first | omega | exact Nat.le_refl _⟩, by repeat (first | exact Drawn0.refl _ | apply Drawn0.step)⟩
  ·rw [if_neg c3] at H
   have c3b0 : decide (48 ≤ a0) = false := decide_eq_false c3
   clear c3
   (first | rw [c3b0] | (simp only [i64_w, i32_w]; rw [c3b0]) | skip)
   have H' := Aside0.mk H
   clear H
   go_wp2
   go_meet
   case rel => exact ⟨_, (false), (by first | rfl | (simp; done) | (simp [*]; done)), H', ⟨by first | omega | exact Nat.le_refl _⟩, by repeat (first | exact Drawn0.refl _ | apply Drawn0.step)⟩
 case rest =>
  clear HC2
  try clear p2
  try clear c3
  try clear c3b0
  obtain ⟨kq, x3_1, rfl, HA, HJ1, ⟨mc1, rfl⟩⟩ := hcut
  cases kq with
  | zero => exact absurd HA.out (by simp [moultref1_hex.j0])
  | succ kj1 =>
   have H := HA.out
   clear HA
   simp only [moultref1_hex.j0] at H
   by_cases c4 : x3_1 = true
   ·subst c4
    have H1 : (some ((a0 - 48) % 256)) = some r := by rw [if_pos rfl] at H; exact H
    clear H
    have H := H1
    clear H1
    obtain rfl := Option.some.inj H
    go_wp2
    go_ret
    exact ⟨by first | rfl | (simp; done) | (simp [*]; done), by repeat (first | exact Drawn0.refl _ | apply Drawn0.step)⟩
   ·replace c4 := Bool.eq_false_iff.mpr c4
    subst c4
    have H1 : (if a0 ≥ 97 then (if a0 ≤ 102 then (some (((a0 - 97) % 256) + 10)) else (some (-1))) else (some (-1))) = some r := by rw [if_neg (show ¬ (false = true) by decide)] at H; exact H
    clear H
    have H := H1
    clear H1
    by_cases c5 : a0 ≥ 97
    ·rw [if_pos c5] at H
     have c5b0 : decide (97 ≤ a0) = true := decide_eq_true c5
     clear c5
     by_cases c6 : a0 ≤ 102
     ·rw [if_pos c6] at H
      have c6b0 : decide (a0 ≤ 102) = true := decide_eq_true c6
      clear c6
      obtain rfl := Option.some.inj H
      go_wp2
      go_ret
      exact ⟨by first | rfl | (simp; done) | (simp [*]; done), by repeat (first | exact Drawn0.refl _ | apply Drawn0.step)⟩
     ·rw [if_neg c6] at H
      have c6b0 : decide (a0 ≤ 102) = false := decide_eq_false c6
      clear c6
      obtain rfl := Option.some.inj H
      go_wp2
      go_ret
      exact ⟨by first | rfl | (simp; done) | (simp [*]; done), by repeat (first | exact Drawn0.refl _ | apply Drawn0.step)⟩
    ·rw [if_neg c5] at H
     have c5b0 : decide (97 ≤ a0) = false := decide_eq_false c5
     clear c5
     obtain rfl := Option.some.inj H
     go_wp2
     go_ret
     exact ⟨by first | rfl | (simp; done) | (simp [*]; done), by repeat (first | exact Drawn0.refl _ | apply Drawn0.step)⟩

end Go.Proofs.YtnedhbnbhedgeaaDoor.PAll
