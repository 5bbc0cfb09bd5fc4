-- Laid by ownprint.py (a program of the session, in wip/tools), out of the translation: Lean checks it.
import Derived.Test.YthdoanbadhfhjaaPAllx0
import Derived.Test.YthdoanbadhfhjaaPAllx10
import Derived.Test.YthdoanbadhfhjaaGv
import Derived.Test.YthdoanbadhfhjaaGw
namespace Go.Proofs.Ythdoanbadhfhjaa.PAll
open Go.RowKit Go.Proofs.YthdoanbadhfhjaaW.PrintWords Go.Proofs.YthdoanbadhfhjaaW.PrintLast Go.Proofs.YthdoanbadhfhjaaW.PrintMore
attribute [local go_sem] max2_int min2_int max_two min_two max_three min_three max_four min_four   -- for this text's walks alone
set_option linter.unusedVariables false
set_option linter.unusedSimpArgs false

/-! ### moultref12_put: function 27 -/
def moultref12_put.l0 : Nat → List (S36) → Int → ByteArray → Int → Bool → ByteArray → Option ((List (S36)))
 | 0, _, _, _, _, _, _ => none
 | k + 1, x0, x5, x326000, x326001, x326002, x326003 => if x5 < (x0.length : Int) then (if 0 ≤ x5 then ((moultref10_Less.f k ((rd_T36 x0 x5).f0) ((rd_T36 x0 x5).f1) ((rd_T36 x0 x5).f2) ((rd_T36 x0 x5).f3) x326000 x326001 x326002 x326003).bind fun t327 => (if t327 = true then (moultref12_put.l0 k x0 (wrap64 (x5 + 1)) x326000 x326001 x326002 x326003) else ((moultref10_Less.f k x326000 x326001 x326002 x326003 ((rd_T36 x0 x5).f0) ((rd_T36 x0 x5).f1) ((rd_T36 x0 x5).f2) ((rd_T36 x0 x5).f3)).bind fun t329 => (if t329 = true then ((some (([] : List (S36)) : List (S36))).bind fun y330 => (if x5 ≤ (x0.length : Int) then ((some (x0.take (x5 : Int).toNat : List (S36))).bind fun y333 => (if y330.length + y333.length < 2932031007402 then ((some (y330 ++ y333 : List (S36))).bind fun y338 => ((some (([(⟨x326000, x326001, x326002, x326003⟩ : S36)] : List (S36)) : List (S36))).bind fun y341 => (if y338.length + y341.length < 2932031007402 then ((some (y338 ++ y341 : List (S36))).bind fun y344 => ((some (x0.drop (x5 : Int).toNat : List (S36))).bind fun y347 => (if y344.length + y347.length < 2932031007402 then (some (y344 ++ y347)) else (none)))) else (none)))) else (none))) else (none))) else (some x0))))) else (none)) else ((some (([] : List (S36)) : List (S36))).bind fun y355 => (if 0 ≤ x5 then (if x5 ≤ (x0.length : Int) then ((some (x0.take (x5 : Int).toNat : List (S36))).bind fun y358 => (if y355.length + y358.length < 2932031007402 then ((some (y355 ++ y358 : List (S36))).bind fun y363 => ((some (([(⟨x326000, x326001, x326002, x326003⟩ : S36)] : List (S36)) : List (S36))).bind fun y366 => (if y363.length + y366.length < 2932031007402 then ((some (y363 ++ y366 : List (S36))).bind fun y369 => ((some (x0.drop (x5 : Int).toNat : List (S36))).bind fun y372 => (if y369.length + y372.length < 2932031007402 then (some (y369 ++ y372)) else (none)))) else (none)))) else (none))) else (none)) else (none)))
def moultref12_put.f (k : Nat) (l0 : List (S36)) (a1_0 : ByteArray) (a1_1 : Int) (a1_2 : Bool) (a1_3 : ByteArray) : Option ((List (S36))) := moultref12_put.l0 k l0 0 a1_0 a1_1 a1_2 a1_3
theorem moultref12_put.mono_l : ∀ k, (∀ y0 y1 y2 y3 y4 y5, LeO (moultref12_put.l0 k y0 y1 y2 y3 y4 y5) (moultref12_put.l0 (k + 1) y0 y1 y2 y3 y4 y5))
 | 0 => fun _ _ _ _ _ _ r h => by simp [moultref12_put.l0] at h
 | k + 1 => by
  have ih0 := moultref12_put.mono_l k
  ·intro y0 y1 y2 y3 y4 y5
   unfold moultref12_put.l0
   repeat' first
   | (with_reducible exact ih0 _ _ _ _ _ _)
   | (with_reducible exact moultref10_Less.mono _ _ _ _ _ _ _ _ _)
   | (with_reducible exact LeO.refl _)
   | (with_reducible exact LeO.none _)
   | (with_reducible refine LeO.ite ?_ ?_)
   | (with_reducible refine LeO.bind ?_ (fun _ => ?_))
   | exact ih0 _ _ _ _ _ _
   | exact moultref10_Less.mono _ _ _ _ _ _ _ _ _
   | exact LeO.none _
   | refine LeO.ite ?_ ?_
   | refine LeO.bind ?_ (fun _ => ?_)
theorem moultref12_put.mono : ∀ a0 a1 a2 a3 a4 k, LeO (moultref12_put.f k a0 a1 a2 a3 a4) (moultref12_put.f (k + 1) a0 a1 a2 a3 a4) := by
 intro a0 a1 a2 a3 a4 k
 have ih0 := moultref12_put.mono_l k
 unfold moultref12_put.f
 repeat' first
   | (with_reducible exact ih0 _ _ _ _ _ _)
   | (with_reducible exact moultref10_Less.mono _ _ _ _ _ _ _ _ _)
   | (with_reducible exact LeO.refl _)
   | (with_reducible exact LeO.none _)
   | (with_reducible refine LeO.ite ?_ ?_)
   | (with_reducible refine LeO.bind ?_ (fun _ => ?_))
   | exact ih0 _ _ _ _ _ _
   | exact moultref10_Less.mono _ _ _ _ _ _ _ _ _
   | exact LeO.none _
   | refine LeO.ite ?_ ?_
   | refine LeO.bind ?_ (fun _ => ?_)
def moultref12_put.T2 : Bool × List (List Nat × List Nat) := (true, [([], []), ([], []), ([1], [1]), ([0, 2], [0, 2]), ([3], [3]), ([4], [4]), ([4], [4]), ([5, 6, 4], [4, 5, 6]), ([7, 4], [4, 7]), ([4], [4]), ([8, 9, 4, 4], [4, 8, 9]), ([4, 10], [4, 10])])
def moultref12_put.B2 : List Nat := [0, 0, 2, 7, 15, 31, 31, 127, 255, 31, 1023, 2047]
theorem moultref12_put.tab2 : rtab .any (opsOf Try.f27 2) = moultref12_put.T2 := by kernel_rfl
theorem moultref12_put.bits2 : waitsOk moultref12_put.T2.2 moultref12_put.B2 = true := by kernel_rfl
def moultref12_put.T4 : Bool × List (List Nat × List Nat) := (true, [([], []), ([], []), ([1], [1]), ([0, 2], [0, 2]), ([3], [3]), ([4], [4]), ([4], [4]), ([4], [4]), ([6, 7, 4], [4, 6, 7]), ([8, 4], [4, 8]), ([5, 9, 4, 4], [4, 5, 9]), ([10, 4], [4, 10]), ([4, 11], [4, 11])])
def moultref12_put.B4 : List Nat := [0, 0, 2, 7, 15, 31, 31, 31, 223, 479, 1023, 2047, 4095]
theorem moultref12_put.tab4 : rtab .any (opsOf Try.f27 4) = moultref12_put.T4 := by kernel_rfl
theorem moultref12_put.bits4 : waitsOk moultref12_put.T4.2 moultref12_put.B4 = true := by kernel_rfl
def moultref12_put.T6 : Bool × List (List Nat × List Nat) := (true, [([], []), ([], []), ([], []), ([1, 2], [1, 2]), ([0, 3], [0, 3]), ([], []), ([5], [5]), ([4, 6, 4], [4, 6]), ([], []), ([], []), ([8, 9], [8, 9]), ([7, 10, 7], [7, 10]), ([11, 11, 0, 1, 2, 3, 4, 5, 6, 7, 8, 9, 10, 11], [11])])
def moultref12_put.B6 : List Nat := [0, 0, 0, 6, 15, 0, 32, 127, 0, 0, 768, 2047, 4095]
theorem moultref12_put.tab6 : rtab .any (opsOf Try.f27 6) = moultref12_put.T6 := by kernel_rfl
theorem moultref12_put.bits6 : waitsOk moultref12_put.T6.2 moultref12_put.B6 = true := by kernel_rfl
set_option maxHeartbeats 8000000 in
set_option maxRecDepth 100000 in
theorem moultref12_put.calls (k : Nat) (P0_ : Nat → Prop) (A0 : Option Addr) (c0 : Nat) (l0 : List (S36)) (a1_0 : ByteArray) (a1_1 : Int) (a1_2 : Bool) (a1_3 : ByteArray) (r : List (S36)) (w : World) (hs0 : Kd.V k36 36 w w.heap.size (fun k_ => P0_ k_) (.slice A0 l0.length c0) l0) (h : moultref12_put.f k l0 a1_0 a1_1 a1_2 a1_3 = some r) :
  Calls Try.prog 27 #[.slice A0 l0.length c0, .agg #[.string a1_0, .int .i64 a1_1, .bool a1_2, .string a1_3]] w fun e w' => ∃ v0_ : Value, e = .returned (v0_) ∧ Kd.V k36 36 w' w.heap.size (fun k_ => (P0_ k_ ∨ w.heap.size ≤ k_)) v0_ r ∧ Below w.heap.size w w' := by
 have hu36 := Try.underlying36
 have HO0 := Aside0.mk (show Kd.V k36 36 w w.heap.size (fun k_ => (P0_ k_ ∨ w.heap.size ≤ k_)) (.slice A0 l0.length c0) l0 from Kd.V_mono hs0 (fun k_ hk => .inl hk))
 have HB := Aside0.mk (Below.refl w.heap.size w)
 have H : (moultref12_put.l0 k l0 0 a1_0 a1_1 a1_2 a1_3) = some r := h
 clear h
 have H' := Aside0.mk H
 clear H
 go_enter Try.func27, Try.ntmps27
 go_wp2_with (first | ((with_reducible refine gate_dst (N := 3) rfl ?_); refine box_event ?hg (N := 3) ?hd (cs := #[.string a1_0, .int .i64 a1_1, .bool a1_2, .string a1_3]) (t := 36) ?hr ?_; (case hd => rfl); (case hg => rfl); (case hr => first | (go_simp; done) | (go_simp; rfl)); intro gb325 hg w3 hbox hb; have n0_ := Aside0.mk (Kd.V_below (Kd.V_elderB HO0.out gb325 (Nat.le_of_eq hg.symm)) hb); have n1_ := Aside0.mk (below_step HB.out hb); have n2_ := Aside0.mk (hbox); have n3_ := Aside0.mk ((by rw [hg]; exact (below_size HB.out) : w.heap.size ≤ gb325)); have n4_ := Aside0.mk ((by rw [hg]; exact (below_size HB.out) : w.heap.size ≤ gb325)); clear HO0; clear HB; have HO0 := n0_; have HB := n1_; have BK325 := n2_; have GW325 := n3_; have GE325 := n4_; clear n0_ n1_ n2_ n3_ n4_; clear hb hbox hg))
 go_loopg [5] k (fun kq v5 w' => ∃ (x5_1 : Int), v5 = .int .i64 x5_1 ∧ Aside0 (moultref12_put.l0 kq l0 x5_1 a1_0 a1_1 a1_2 a1_3 = some r) ∧ Aside0 (kq ≤ k) ∧ Aside0 (Kd.V k36 36 w' w.heap.size (fun k_ => (P0_ k_ ∨ w.heap.size ≤ k_) ∧ k_ ≠ gb325) (.slice A0 l0.length c0) l0) ∧ Aside0 (w'.heap[gb325]? = some (.cells #[.string a1_0, .int .i64 a1_1, .bool a1_2, .string a1_3] 36 (0, 0))) ∧ Aside0 (Below w.heap.size w w'))
 case atStart => exact ⟨(0), (by first | rfl | (simp; done) | (simp [*]; done)), H', ⟨Nat.le_refl _⟩, ⟨by (with_reducible repeat (first | apply Kd.V_alloc | apply Kd.V_drewN | apply Kd.V_drew)); exact HO0.out⟩, ⟨by (with_reducible repeat (first | refine blk_drewN ?_ _ | refine blk_drew ?_ | refine blk_alloc ?_ _)); exact BK325.out⟩, ⟨by repeat (first | (with_reducible first | exact HB.out | apply below_alloc | apply pw_below_drewN | apply below_drew1 | refine below_set ?_ GE325.out) | exact HB.out)⟩⟩
 case round =>
  clear H'
  try clear c2
  try clear p2
  obtain ⟨x5_1, rfl, HA, HK1, HO_0, BK325, HB⟩ := hrel
  cases gk with
  | zero => exact absurd HA.out (by simp [moultref12_put.l0])
  | succ k1 =>
   have H := HA.out
   clear HA
   simp only [moultref12_put.l0] at H
   by_cases c4 : x5_1 < (l0.length : Int)
   ·rw [if_pos c4] at H
    have c4b0 : decide (x5_1 < (l0.length : Int)) = true := decide_eq_true c4
    clear c4
    by_cases c5 : 0 ≤ x5_1
    ·rw [if_pos c5] at H
     have c5b0 : decide (0 ≤ x5_1) = true := decide_eq_true c5
     clear c5
     replace H := Option.bind_eq_some_iff.mp H
     obtain ⟨t327, A60, H⟩ := H
     replace H : (if t327 = true then (moultref12_put.l0 k1 l0 (wrap64 (x5_1 + 1)) a1_0 a1_1 a1_2 a1_3) else ((moultref10_Less.f k1 a1_0 a1_1 a1_2 a1_3 ((rd_T36 l0 x5_1).f0) ((rd_T36 l0 x5_1).f1) ((rd_T36 l0 x5_1).f2) ((rd_T36 l0 x5_1).f3)).bind fun t329 => (if t329 = true then ((some (([] : List (S36)) : List (S36))).bind fun y330 => (if x5_1 ≤ (l0.length : Int) then ((some (l0.take (x5_1 : Int).toNat : List (S36))).bind fun y333 => (if y330.length + y333.length < 2932031007402 then ((some (y330 ++ y333 : List (S36))).bind fun y338 => ((some (([(⟨a1_0, a1_1, a1_2, a1_3⟩ : S36)] : List (S36)) : List (S36))).bind fun y341 => (if y338.length + y341.length < 2932031007402 then ((some (y338 ++ y341 : List (S36))).bind fun y344 => ((some (l0.drop (x5_1 : Int).toNat : List (S36))).bind fun y347 => (if y344.length + y347.length < 2932031007402 then (some (y344 ++ y347)) else (none)))) else (none)))) else (none))) else (none))) else (some l0)))) = some r := H
     have A6 := Aside0.mk A60
     clear A60
     by_cases c7 : t327 = true
     ·subst c7
      have H1 : (moultref12_put.l0 k1 l0 (wrap64 (x5_1 + 1)) a1_0 a1_1 a1_2 a1_3) = some r := by rw [if_pos rfl] at H; exact H
      clear H
      have H := H1
      clear H1
      have H' := Aside0.mk H
      clear H
      try go_wp2
      have n0_ := Aside0.mk (Kd.V_drew HO_0.out)
      have n1_ := Aside0.mk (blk_drew BK325.out)
      have n2_ := Aside0.mk (below_drew1 HB.out)
      clear HO_0
      clear BK325
      clear HB
      have HO_0 := n0_
      have BK325 := n1_
      have HB := n2_
      clear n0_ n1_ n2_
      have p326 : 0 ≤ (x5_1 : Int) := of_decide_eq_true (by first | (with_reducible assumption) | assumption)
      have q326 : x5_1 < (l0.length : Int) := of_decide_eq_true (by first | (with_reducible assumption) | assumption)
      obtain ⟨ad326, e326, hx326_0, hx326_1, hx326_2, hx326_3⟩ := at_T36 (Kd.V_reads' HO_0.out).2.2 x5_1 p326 q326
      cases e326
      replace p326 := eq_true p326
      replace q326 := eq_true q326
      refine start_ (n := 12) (S := fun w' => w'.cell? ⟨gb325, 0, none⟩ = some (.string a1_0) ∧ w'.cell? ⟨gb325, 1, none⟩ = some (.int .i64 a1_1) ∧ w'.cell? ⟨gb325, 2, none⟩ = some (.bool a1_2) ∧ w'.cell? ⟨gb325, 3, none⟩ = some (.string a1_3) ∧ w'.cell? (ad326.add ((x5_1).toNat * 4)) = some (.string ((rd_T36 l0 x5_1).f0)) ∧ w'.cell? ⟨(ad326.add ((x5_1).toNat * 4)).block, (ad326.add ((x5_1).toNat * 4)).off + 1, none⟩ = some (.int .i64 ((rd_T36 l0 x5_1).f1)) ∧ w'.cell? ⟨(ad326.add ((x5_1).toNat * 4)).block, (ad326.add ((x5_1).toNat * 4)).off + 2, none⟩ = some (.bool ((rd_T36 l0 x5_1).f2)) ∧ w'.cell? ⟨(ad326.add ((x5_1).toNat * 4)).block, (ad326.add ((x5_1).toNat * 4)).off + 3, none⟩ = some (.string ((rd_T36 l0 x5_1).f3))) (ds := []) #[ff, ff, ff, ff, ff, ff, ff, ff, ff, ff, ff, ff] (by kernel_rfl) rfl rfl ⟨(blk_cell BK325.out 0).trans rfl, (blk_cell BK325.out 1).trans rfl, (blk_cell BK325.out 2).trans rfl, (blk_cell BK325.out 3).trans rfl, hx326_0, hx326_1, hx326_2, hx326_3⟩ (fun hHeld => ?_); refine with_tabW moultref12_put.tab2 moultref12_put.bits2 (fun HT_ HW_ => ?_)
      generalize wr.drew = w8 at HO_0 BK325 HB hx326_0 hx326_1 hx326_2 hx326_3 hHeld ⊢
      refine pq_ (i := 0) (N := some 6) HT_ #[tt, ff, ff, ff, ff, ff, ff, ff, ff, ff, ff, ff] ?_
      refine pq_ (i := 1) (N := some 7) HT_ #[tt, tt, ff, ff, ff, ff, ff, ff, ff, ff, ff, ff] ?_
      refine pq_ (i := 2) (N := some 8) HT_ #[tt, tt, tt, ff, ff, ff, ff, ff, ff, ff, ff, ff] ?_
      refine pq_ (i := 3) (N := some 9) HT_ #[tt, tt, tt, tt, ff, ff, ff, ff, ff, ff, ff, ff] ?_
      refine pq_ (i := 4) (N := some 10) HT_ #[tt, tt, tt, tt, tt, ff, ff, ff, ff, ff, ff, ff] ?_
      refine pq_ (i := 5) (N := some 11) HT_ #[tt, tt, tt, tt, tt, tt, ff, ff, ff, ff, ff, ff] ?_
      refine pq_ (i := 6) (N := some 12) HT_ #[tt, tt, tt, tt, tt, tt, tt, ff, ff, ff, ff, ff] ?_
      refine pq_ (i := 7) (N := some 13) HT_ #[tt, tt, tt, tt, tt, tt, tt, tt, ff, ff, ff, ff] ?_
      refine take_ (i := 8) (N := some 14) (v := ?_) (a' := ?_) #[tt, tt, tt, tt, tt, tt, tt, tt, tt, ff, ff, ff] rfl rfl (take_ofW HT_.out HW_.out (by kernel_rfl)) (fun _ _ _ h => h) (Or.inl ⟨by rfl, ?_⟩) hHeld ?_ ?_
      rotate_left
      ·rintro w' ⟨s0, s1, s2, s3, s4, s5, s6, s7⟩
       go_simp
       with_reducible rfl
      rotate_left
      ·simp only [Act.put, List.setIfInBounds_toArray, List.set_cons_zero, List.set_cons_succ, i64_w, i32_w]
       rfl
      refine take_ (i := 9) (N := some 15) (v := ?_) (a' := ?_) #[tt, tt, tt, tt, tt, tt, tt, tt, tt, tt, ff, ff] rfl rfl (take_ofW HT_.out HW_.out (by kernel_rfl)) (fun _ _ _ h => h) (Or.inl ⟨by rfl, ?_⟩) hHeld ?_ ?_
      rotate_left
      ·rintro w' ⟨s0, s1, s2, s3, s4, s5, s6, s7⟩
       go_simp
       with_reducible rfl
      rotate_left
      ·simp only [Act.put, List.setIfInBounds_toArray, List.set_cons_zero, List.set_cons_succ, i64_w, i32_w]
       rfl
      refine one_ (i := 10) (N := some 16) #[tt, tt, tt, tt, tt, tt, tt, tt, tt, tt, tt, ff] rfl rfl (one_of HT_.out (by kernel_rfl)) (by decide) (fun K hK => ?_)
      refine goes_ Try.func34 (by kernel_rfl) rfl #[.agg #[.string ((rd_T36 l0 x5_1).f0), .int .i64 ((rd_T36 l0 x5_1).f1), .bool ((rd_T36 l0 x5_1).f2), .string ((rd_T36 l0 x5_1).f3)], .agg #[.string a1_0, .int .i64 a1_1, .bool a1_2, .string a1_3]] (by rfl) rfl rfl (by (try simp only [List.map_toArray, List.map_cons, List.map_nil]); first | done | rfl | (simp only [List.length_drop, List.length_take]; rfl)) ?_
      with_reducible refine (moultref10_Less.calls k1 ((rd_T36 l0 x5_1).f0) ((rd_T36 l0 x5_1).f1) ((rd_T36 l0 x5_1).f2) ((rd_T36 l0 x5_1).f3) a1_0 a1_1 a1_2 a1_3 true _ A6.out).mono ?_
      rintro e w9 ⟨rfl, hb⟩
      have HS4_ := (hb.cell (World.block_lt_of_cell? _ _ (hHeld.2.2.2.2.1))).trans (hHeld.2.2.2.2.1)
      have HS5_ := (hb.cell (World.block_lt_of_cell? _ _ (hHeld.2.2.2.2.2.1))).trans (hHeld.2.2.2.2.2.1)
      have HS6_ := (hb.cell (World.block_lt_of_cell? _ _ (hHeld.2.2.2.2.2.2.1))).trans (hHeld.2.2.2.2.2.2.1)
      have HS7_ := (hb.cell (World.block_lt_of_cell? _ _ (hHeld.2.2.2.2.2.2.2))).trans (hHeld.2.2.2.2.2.2.2)
      refine ⟨_, rfl, ?_⟩
      have n0_ := Aside0.mk (Kd.V_below HO_0.out hb)
      have n1_ := Aside0.mk (blk_below (g := gb325) (o := .cells #[.string a1_0, .int .i64 a1_1, .bool a1_2, .string a1_3] 36 (0, 0)) (by (with_reducible repeat (first | refine blk_drewN ?_ _ | refine blk_drew ?_ | refine blk_alloc ?_ _)); exact BK325.out) hb)
      have n2_ := Aside0.mk (below_step (by repeat (first | (with_reducible first | exact HB.out | apply below_alloc | apply pw_below_drewN | apply below_drew1 | refine below_set ?_ GE325.out) | exact HB.out)) hb)
      clear HO_0
      clear BK325
      clear HB
      have HO_0 := n0_
      have BK325 := n1_
      have HB := n2_
      clear n0_ n1_ n2_
      (try clear hb)
      (try clear hb2)
      (try clear hk)
      (try clear hi)
      refine hK.out _ _ ⟨(blk_cell BK325.out 0).trans rfl, (blk_cell BK325.out 1).trans rfl, (blk_cell BK325.out 2).trans rfl, (blk_cell BK325.out 3).trans rfl, HS4_, HS5_, HS6_, HS7_⟩ (fun hHeld => ?_)
      clear hK K
      refine norm_ (a' := ?_) ?_ ?_
      rotate_left
      ·show Act.put _ (some 16) _ = _
       simp only [Act.put, List.setIfInBounds_toArray, List.set_cons_zero, List.set_cons_succ, i64_w, i32_w]
       rfl
      refine pq_ (i := 11) (N := some 17) HT_ #[tt, tt, tt, tt, tt, tt, tt, tt, tt, tt, tt, tt] ?_
      refine done_ (done_of HT_.out (by kernel_rfl)) ?_
      try go_wp2
      go_roundg k1
      case measure => have := HK1.out; omega
      case rel => exact ⟨(wrap64 (x5_1 + 1)), (by first | rfl | (simp; done) | (simp [*]; done)), H', ⟨by have := HK1.out; omega⟩, ⟨by (with_reducible repeat (first | apply Kd.V_alloc | apply Kd.V_drewN | apply Kd.V_drew)); exact HO_0.out⟩, ⟨by (with_reducible repeat (first | refine blk_drewN ?_ _ | refine blk_drew ?_ | refine blk_alloc ?_ _)); exact BK325.out⟩, ⟨by repeat (first | (with_reducible first | exact HB.out | apply below_alloc | apply pw_below_drewN | apply below_drew1 | refine below_set ?_ GE325.out) | exact HB.out)⟩⟩
     ·replace c7 := Bool.eq_false_iff.mpr c7
      subst c7
      have H1 : ((moultref10_Less.f k1 a1_0 a1_1 a1_2 a1_3 ((rd_T36 l0 x5_1).f0) ((rd_T36 l0 x5_1).f1) ((rd_T36 l0 x5_1).f2) ((rd_T36 l0 x5_1).f3)).bind fun t329 => (if t329 = true then ((some (([] : List (S36)) : List (S36))).bind fun y330 => (if x5_1 ≤ (l0.length : Int) then ((some (l0.take (x5_1 : Int).toNat : List (S36))).bind fun y333 => (if y330.length + y333.length < 2932031007402 then ((some (y330 ++ y333 : List (S36))).bind fun y338 => ((some (([(⟨a1_0, a1_1, a1_2, a1_3⟩ : S36)] : List (S36)) : List (S36))).bind fun y341 => (if y338.length + y341.length < 2932031007402 then ((some (y338 ++ y341 : List (S36))).bind fun y344 => ((some (l0.drop (x5_1 : Int).toNat : List (S36))).bind fun y347 => (if y344.length + y347.length < 2932031007402 then (some (y344 ++ y347)) else (none)))) else (none)))) else (none))) else (none))) else (some l0))) = some r := by rw [if_neg (show ¬ (false = true) by decide)] at H; exact H
      clear H
      have H := H1
      clear H1
      replace H := Option.bind_eq_some_iff.mp H
      obtain ⟨t329, A100, H⟩ := H
      replace H : (if t329 = true then ((some (([] : List (S36)) : List (S36))).bind fun y330 => (if x5_1 ≤ (l0.length : Int) then ((some (l0.take (x5_1 : Int).toNat : List (S36))).bind fun y333 => (if y330.length + y333.length < 2932031007402 then ((some (y330 ++ y333 : List (S36))).bind fun y338 => ((some (([(⟨a1_0, a1_1, a1_2, a1_3⟩ : S36)] : List (S36)) : List (S36))).bind fun y341 => (if y338.length + y341.length < 2932031007402 then ((some (y338 ++ y341 : List (S36))).bind fun y344 => ((some (l0.drop (x5_1 : Int).toNat : List (S36))).bind fun y347 => (if y344.length + y347.length < 2932031007402 then (some (y344 ++ y347)) else (none)))) else (none)))) else (none))) else (none))) else (some l0)) = some r := H
      have A10 := Aside0.mk A100
      clear A100
      by_cases c11 : t329 = true
      ·subst c11
       have H1 : ((some (([] : List (S36)) : List (S36))).bind fun y330 => (if x5_1 ≤ (l0.length : Int) then ((some (l0.take (x5_1 : Int).toNat : List (S36))).bind fun y333 => (if y330.length + y333.length < 2932031007402 then ((some (y330 ++ y333 : List (S36))).bind fun y338 => ((some (([(⟨a1_0, a1_1, a1_2, a1_3⟩ : S36)] : List (S36)) : List (S36))).bind fun y341 => (if y338.length + y341.length < 2932031007402 then ((some (y338 ++ y341 : List (S36))).bind fun y344 => ((some (l0.drop (x5_1 : Int).toNat : List (S36))).bind fun y347 => (if y344.length + y347.length < 2932031007402 then (some (y344 ++ y347)) else (none)))) else (none)))) else (none))) else (none))) = some r := by rw [if_pos rfl] at H; exact H
       clear H
       have H := H1
       clear H1
       obtain ⟨y330, hy330⟩ : ∃ y_ : List (S36), y_ = (([] : List (S36))) := ⟨_, rfl⟩
       replace H : (if x5_1 ≤ (l0.length : Int) then ((some (l0.take (x5_1 : Int).toNat : List (S36))).bind fun y333 => (if y330.length + y333.length < 2932031007402 then ((some (y330 ++ y333 : List (S36))).bind fun y338 => ((some (([(⟨a1_0, a1_1, a1_2, a1_3⟩ : S36)] : List (S36)) : List (S36))).bind fun y341 => (if y338.length + y341.length < 2932031007402 then ((some (y338 ++ y341 : List (S36))).bind fun y344 => ((some (l0.drop (x5_1 : Int).toNat : List (S36))).bind fun y347 => (if y344.length + y347.length < 2932031007402 then (some (y344 ++ y347)) else (none)))) else (none)))) else (none))) else (none)) = some r := by first | (rw [hy330]; with_reducible exact H) | (have H2_ := (Option.bind_some _ _).symm.trans H; rw [hy330]; with_reducible exact H2_) | (have H2_ := (Option.bind_some _ _).symm.trans H; with_reducible exact H2_) | with_reducible exact H | (rw [hy330]; exact H) | exact H
       have Ny330 := Aside0.mk hy330
       clear hy330
       have c12b0 := eq_true (of_decide_eq_true (by first | (with_reducible assumption) | assumption) : 0 ≤ x5_1)
       by_cases c13 : x5_1 ≤ (l0.length : Int)
       ·rw [if_pos c13] at H
        have c13b0 := eq_true c13
        have c13b1 : decide (x5_1 ≤ (l0.length : Int)) = true := decide_eq_true c13
        clear c13
        obtain ⟨y333, hy333⟩ : ∃ y_ : List (S36), y_ = (l0.take (x5_1 : Int).toNat) := ⟨_, rfl⟩
        replace H : (if y330.length + y333.length < 2932031007402 then ((some (y330 ++ y333 : List (S36))).bind fun y338 => ((some (([(⟨a1_0, a1_1, a1_2, a1_3⟩ : S36)] : List (S36)) : List (S36))).bind fun y341 => (if y338.length + y341.length < 2932031007402 then ((some (y338 ++ y341 : List (S36))).bind fun y344 => ((some (l0.drop (x5_1 : Int).toNat : List (S36))).bind fun y347 => (if y344.length + y347.length < 2932031007402 then (some (y344 ++ y347)) else (none)))) else (none)))) else (none)) = some r := by first | (rw [hy333]; with_reducible exact H) | (have H2_ := (Option.bind_some _ _).symm.trans H; rw [hy333]; with_reducible exact H2_) | (have H2_ := (Option.bind_some _ _).symm.trans H; with_reducible exact H2_) | with_reducible exact H | (rw [hy333]; exact H) | exact H
        have Ny333 := Aside0.mk hy333
        clear hy333
        by_cases c14 : y330.length + y333.length < 2932031007402
        ·rw [if_pos c14] at H
         have LMc14 := Aside0.mk c14
         clear c14
         obtain ⟨y338, hy338⟩ : ∃ y_ : List (S36), y_ = (y330 ++ y333) := ⟨_, rfl⟩
         replace H : ((some (([(⟨a1_0, a1_1, a1_2, a1_3⟩ : S36)] : List (S36)) : List (S36))).bind fun y341 => (if y338.length + y341.length < 2932031007402 then ((some (y338 ++ y341 : List (S36))).bind fun y344 => ((some (l0.drop (x5_1 : Int).toNat : List (S36))).bind fun y347 => (if y344.length + y347.length < 2932031007402 then (some (y344 ++ y347)) else (none)))) else (none))) = some r := by first | (rw [hy338]; with_reducible exact H) | (have H2_ := (Option.bind_some _ _).symm.trans H; rw [hy338]; with_reducible exact H2_) | (have H2_ := (Option.bind_some _ _).symm.trans H; with_reducible exact H2_) | with_reducible exact H | (rw [hy338]; exact H) | exact H
         have Ny338 := Aside0.mk hy338
         clear hy338
         obtain ⟨y341, hy341⟩ : ∃ y_ : List (S36), y_ = (([(⟨a1_0, a1_1, a1_2, a1_3⟩ : S36)] : List (S36))) := ⟨_, rfl⟩
         replace H : (if y338.length + y341.length < 2932031007402 then ((some (y338 ++ y341 : List (S36))).bind fun y344 => ((some (l0.drop (x5_1 : Int).toNat : List (S36))).bind fun y347 => (if y344.length + y347.length < 2932031007402 then (some (y344 ++ y347)) else (none)))) else (none)) = some r := by first | (rw [hy341]; with_reducible exact H) | (have H2_ := (Option.bind_some _ _).symm.trans H; rw [hy341]; with_reducible exact H2_) | (have H2_ := (Option.bind_some _ _).symm.trans H; with_reducible exact H2_) | with_reducible exact H | (rw [hy341]; exact H) | exact H
         have Ny341 := Aside0.mk hy341
         clear hy341
         by_cases c15 : y338.length + y341.length < 2932031007402
         ·rw [if_pos c15] at H
          have LMc15 := Aside0.mk c15
          clear c15
          obtain ⟨y344, hy344⟩ : ∃ y_ : List (S36), y_ = (y338 ++ y341) := ⟨_, rfl⟩
          replace H : ((some (l0.drop (x5_1 : Int).toNat : List (S36))).bind fun y347 => (if y344.length + y347.length < 2932031007402 then (some (y344 ++ y347)) else (none))) = some r := by first | (rw [hy344]; with_reducible exact H) | (have H2_ := (Option.bind_some _ _).symm.trans H; rw [hy344]; with_reducible exact H2_) | (have H2_ := (Option.bind_some _ _).symm.trans H; with_reducible exact H2_) | with_reducible exact H | (rw [hy344]; exact H) | exact H
          have Ny344 := Aside0.mk hy344
          clear hy344
          have c16b0 := eq_true (of_decide_eq_true (by first | (with_reducible assumption) | assumption) : 0 ≤ x5_1)
          have c17b0 := eq_true (of_decide_eq_true (by first | (with_reducible assumption) | assumption) : x5_1 ≤ (l0.length : Int))
          obtain ⟨y347, hy347⟩ : ∃ y_ : List (S36), y_ = (l0.drop (x5_1 : Int).toNat) := ⟨_, rfl⟩
          replace H : (if y344.length + y347.length < 2932031007402 then (some (y344 ++ y347)) else (none)) = some r := by first | (rw [hy347]; with_reducible exact H) | (have H2_ := (Option.bind_some _ _).symm.trans H; rw [hy347]; with_reducible exact H2_) | (have H2_ := (Option.bind_some _ _).symm.trans H; with_reducible exact H2_) | with_reducible exact H | (rw [hy347]; exact H) | exact H
          have Ny347 := Aside0.mk hy347
          clear hy347
          by_cases c18 : y344.length + y347.length < 2932031007402
          ·rw [if_pos c18] at H
           have LMc18 := Aside0.mk c18
           clear c18
           obtain ⟨y352, hy352⟩ : ∃ y_ : List (S36), y_ = (y344 ++ y347) := ⟨_, rfl⟩
           replace H : (some y352) = some r := by first | (rw [hy352]; with_reducible exact H) | (have H2_ := (Option.bind_some _ _).symm.trans H; rw [hy352]; with_reducible exact H2_) | (have H2_ := (Option.bind_some _ _).symm.trans H; with_reducible exact H2_) | with_reducible exact H | (rw [hy352]; exact H) | exact H
           have Ny352 := Aside0.mk hy352
           clear hy352
           obtain rfl := Option.some.inj H
           try go_wp2
           have n0_ := Aside0.mk (Kd.V_drew HO_0.out)
           have n1_ := Aside0.mk (blk_drew BK325.out)
           have n2_ := Aside0.mk (below_drew1 HB.out)
           clear HO_0
           clear BK325
           clear HB
           have HO_0 := n0_
           have BK325 := n1_
           have HB := n2_
           clear n0_ n1_ n2_
           have p326 : 0 ≤ (x5_1 : Int) := of_decide_eq_true (by first | (with_reducible assumption) | assumption)
           have q326 : x5_1 < (l0.length : Int) := of_decide_eq_true (by first | (with_reducible assumption) | assumption)
           obtain ⟨ad326, e326, hx326_0, hx326_1, hx326_2, hx326_3⟩ := at_T36 (Kd.V_reads' HO_0.out).2.2 x5_1 p326 q326
           cases e326
           replace p326 := eq_true p326
           replace q326 := eq_true q326
           refine start_ (n := 12) (S := fun w' => w'.cell? ⟨gb325, 0, none⟩ = some (.string a1_0) ∧ w'.cell? ⟨gb325, 1, none⟩ = some (.int .i64 a1_1) ∧ w'.cell? ⟨gb325, 2, none⟩ = some (.bool a1_2) ∧ w'.cell? ⟨gb325, 3, none⟩ = some (.string a1_3) ∧ w'.cell? (ad326.add ((x5_1).toNat * 4)) = some (.string ((rd_T36 l0 x5_1).f0)) ∧ w'.cell? ⟨(ad326.add ((x5_1).toNat * 4)).block, (ad326.add ((x5_1).toNat * 4)).off + 1, none⟩ = some (.int .i64 ((rd_T36 l0 x5_1).f1)) ∧ w'.cell? ⟨(ad326.add ((x5_1).toNat * 4)).block, (ad326.add ((x5_1).toNat * 4)).off + 2, none⟩ = some (.bool ((rd_T36 l0 x5_1).f2)) ∧ w'.cell? ⟨(ad326.add ((x5_1).toNat * 4)).block, (ad326.add ((x5_1).toNat * 4)).off + 3, none⟩ = some (.string ((rd_T36 l0 x5_1).f3))) (ds := []) #[ff, ff, ff, ff, ff, ff, ff, ff, ff, ff, ff, ff] (by kernel_rfl) rfl rfl ⟨(blk_cell BK325.out 0).trans rfl, (blk_cell BK325.out 1).trans rfl, (blk_cell BK325.out 2).trans rfl, (blk_cell BK325.out 3).trans rfl, hx326_0, hx326_1, hx326_2, hx326_3⟩ (fun hHeld => ?_); refine with_tabW moultref12_put.tab2 moultref12_put.bits2 (fun HT_ HW_ => ?_)
           generalize wr.drew = w19 at HO_0 BK325 HB hx326_0 hx326_1 hx326_2 hx326_3 hHeld ⊢
           refine pq_ (i := 0) (N := some 6) HT_ #[tt, ff, ff, ff, ff, ff, ff, ff, ff, ff, ff, ff] ?_
           refine pq_ (i := 1) (N := some 7) HT_ #[tt, tt, ff, ff, ff, ff, ff, ff, ff, ff, ff, ff] ?_
           refine pq_ (i := 2) (N := some 8) HT_ #[tt, tt, tt, ff, ff, ff, ff, ff, ff, ff, ff, ff] ?_
           refine pq_ (i := 3) (N := some 9) HT_ #[tt, tt, tt, tt, ff, ff, ff, ff, ff, ff, ff, ff] ?_
           refine pq_ (i := 4) (N := some 10) HT_ #[tt, tt, tt, tt, tt, ff, ff, ff, ff, ff, ff, ff] ?_
           refine pq_ (i := 5) (N := some 11) HT_ #[tt, tt, tt, tt, tt, tt, ff, ff, ff, ff, ff, ff] ?_
           refine pq_ (i := 6) (N := some 12) HT_ #[tt, tt, tt, tt, tt, tt, tt, ff, ff, ff, ff, ff] ?_
           refine pq_ (i := 7) (N := some 13) HT_ #[tt, tt, tt, tt, tt, tt, tt, tt, ff, ff, ff, ff] ?_
           refine take_ (i := 8) (N := some 14) (v := ?_) (a' := ?_) #[tt, tt, tt, tt, tt, tt, tt, tt, tt, ff, ff, ff] rfl rfl (take_ofW HT_.out HW_.out (by kernel_rfl)) (fun _ _ _ h => h) (Or.inl ⟨by rfl, ?_⟩) hHeld ?_ ?_
           rotate_left
           ·rintro w' ⟨s0, s1, s2, s3, s4, s5, s6, s7⟩
            go_simp
            with_reducible rfl
           rotate_left
           ·simp only [Act.put, List.setIfInBounds_toArray, List.set_cons_zero, List.set_cons_succ, i64_w, i32_w]
            rfl
           refine take_ (i := 9) (N := some 15) (v := ?_) (a' := ?_) #[tt, tt, tt, tt, tt, tt, tt, tt, tt, tt, ff, ff] rfl rfl (take_ofW HT_.out HW_.out (by kernel_rfl)) (fun _ _ _ h => h) (Or.inl ⟨by rfl, ?_⟩) hHeld ?_ ?_
           rotate_left
           ·rintro w' ⟨s0, s1, s2, s3, s4, s5, s6, s7⟩
            go_simp
            with_reducible rfl
           rotate_left
           ·simp only [Act.put, List.setIfInBounds_toArray, List.set_cons_zero, List.set_cons_succ, i64_w, i32_w]
            rfl
           refine one_ (i := 10) (N := some 16) #[tt, tt, tt, tt, tt, tt, tt, tt, tt, tt, tt, ff] rfl rfl (one_of HT_.out (by kernel_rfl)) (by decide) (fun K hK => ?_)
           refine goes_ Try.func34 (by kernel_rfl) rfl #[.agg #[.string ((rd_T36 l0 x5_1).f0), .int .i64 ((rd_T36 l0 x5_1).f1), .bool ((rd_T36 l0 x5_1).f2), .string ((rd_T36 l0 x5_1).f3)], .agg #[.string a1_0, .int .i64 a1_1, .bool a1_2, .string a1_3]] (by rfl) rfl rfl (by (try simp only [List.map_toArray, List.map_cons, List.map_nil]); first | done | rfl | (simp only [List.length_drop, List.length_take]; rfl)) ?_
           with_reducible refine (moultref10_Less.calls k1 ((rd_T36 l0 x5_1).f0) ((rd_T36 l0 x5_1).f1) ((rd_T36 l0 x5_1).f2) ((rd_T36 l0 x5_1).f3) a1_0 a1_1 a1_2 a1_3 false _ A6.out).mono ?_
           rintro e w20 ⟨rfl, hb⟩
           have HS4_ := (hb.cell (World.block_lt_of_cell? _ _ (hHeld.2.2.2.2.1))).trans (hHeld.2.2.2.2.1)
           have HS5_ := (hb.cell (World.block_lt_of_cell? _ _ (hHeld.2.2.2.2.2.1))).trans (hHeld.2.2.2.2.2.1)
           have HS6_ := (hb.cell (World.block_lt_of_cell? _ _ (hHeld.2.2.2.2.2.2.1))).trans (hHeld.2.2.2.2.2.2.1)
           have HS7_ := (hb.cell (World.block_lt_of_cell? _ _ (hHeld.2.2.2.2.2.2.2))).trans (hHeld.2.2.2.2.2.2.2)
           refine ⟨_, rfl, ?_⟩
           have n0_ := Aside0.mk (Kd.V_below HO_0.out hb)
           have n1_ := Aside0.mk (blk_below (g := gb325) (o := .cells #[.string a1_0, .int .i64 a1_1, .bool a1_2, .string a1_3] 36 (0, 0)) (by (with_reducible repeat (first | refine blk_drewN ?_ _ | refine blk_drew ?_ | refine blk_alloc ?_ _)); exact BK325.out) hb)
           have n2_ := Aside0.mk (below_step (by repeat (first | (with_reducible first | exact HB.out | apply below_alloc | apply pw_below_drewN | apply below_drew1 | refine below_set ?_ GE325.out) | exact HB.out)) hb)
           clear HO_0
           clear BK325
           clear HB
           have HO_0 := n0_
           have BK325 := n1_
           have HB := n2_
           clear n0_ n1_ n2_
           (try clear hb)
           (try clear hb2)
           (try clear hk)
           (try clear hi)
           refine hK.out _ _ ⟨(blk_cell BK325.out 0).trans rfl, (blk_cell BK325.out 1).trans rfl, (blk_cell BK325.out 2).trans rfl, (blk_cell BK325.out 3).trans rfl, HS4_, HS5_, HS6_, HS7_⟩ (fun hHeld => ?_)
           clear hK K
           refine norm_ (a' := ?_) ?_ ?_
           rotate_left
           ·show Act.put _ (some 16) _ = _
            simp only [Act.put, List.setIfInBounds_toArray, List.set_cons_zero, List.set_cons_succ, i64_w, i32_w]
            rfl
           refine pq_ (i := 11) (N := some 17) HT_ #[tt, tt, tt, tt, tt, tt, tt, tt, tt, tt, tt, tt] ?_
           refine done_ (done_of HT_.out (by kernel_rfl)) ?_
           try go_wp2
           have n0_ := Aside0.mk (Kd.V_drew HO_0.out)
           have n1_ := Aside0.mk (blk_drew BK325.out)
           have n2_ := Aside0.mk (below_drew1 HB.out)
           clear HO_0
           clear BK325
           clear HB
           have HO_0 := n0_
           have BK325 := n1_
           have HB := n2_
           clear n0_ n1_ n2_
           have p328 : 0 ≤ (x5_1 : Int) := of_decide_eq_true (by first | (with_reducible assumption) | assumption)
           have q328 : x5_1 < (l0.length : Int) := of_decide_eq_true (by first | (with_reducible assumption) | assumption)
           obtain ⟨ad328, e328, hx328_0, hx328_1, hx328_2, hx328_3⟩ := at_T36 (Kd.V_reads' HO_0.out).2.2 x5_1 p328 q328
           obtain rfl : ad326 = ad328 := (by injection e328)
           replace p328 := eq_true p328
           replace q328 := eq_true q328
           refine start_ (n := 13) (S := fun w' => w'.cell? ⟨gb325, 0, none⟩ = some (.string a1_0) ∧ w'.cell? ⟨gb325, 1, none⟩ = some (.int .i64 a1_1) ∧ w'.cell? ⟨gb325, 2, none⟩ = some (.bool a1_2) ∧ w'.cell? ⟨gb325, 3, none⟩ = some (.string a1_3) ∧ w'.cell? (ad326.add ((x5_1).toNat * 4)) = some (.string ((rd_T36 l0 x5_1).f0)) ∧ w'.cell? ⟨(ad326.add ((x5_1).toNat * 4)).block, (ad326.add ((x5_1).toNat * 4)).off + 1, none⟩ = some (.int .i64 ((rd_T36 l0 x5_1).f1)) ∧ w'.cell? ⟨(ad326.add ((x5_1).toNat * 4)).block, (ad326.add ((x5_1).toNat * 4)).off + 2, none⟩ = some (.bool ((rd_T36 l0 x5_1).f2)) ∧ w'.cell? ⟨(ad326.add ((x5_1).toNat * 4)).block, (ad326.add ((x5_1).toNat * 4)).off + 3, none⟩ = some (.string ((rd_T36 l0 x5_1).f3))) (ds := []) #[ff, ff, ff, ff, ff, ff, ff, ff, ff, ff, ff, ff, ff] (by kernel_rfl) rfl rfl ⟨(blk_cell BK325.out 0).trans rfl, (blk_cell BK325.out 1).trans rfl, (blk_cell BK325.out 2).trans rfl, (blk_cell BK325.out 3).trans rfl, hx328_0, hx328_1, hx328_2, hx328_3⟩ (fun hHeld => ?_); refine with_tabW moultref12_put.tab4 moultref12_put.bits4 (fun HT_ HW_ => ?_)
           generalize w20.drew = w21 at HO_0 BK325 HB hx328_0 hx328_1 hx328_2 hx328_3 hHeld ⊢
           refine pq_ (i := 0) (N := some 20) HT_ #[tt, ff, ff, ff, ff, ff, ff, ff, ff, ff, ff, ff, ff] ?_
           refine pq_ (i := 1) (N := some 21) HT_ #[tt, tt, ff, ff, ff, ff, ff, ff, ff, ff, ff, ff, ff] ?_
           refine pq_ (i := 2) (N := some 22) HT_ #[tt, tt, tt, ff, ff, ff, ff, ff, ff, ff, ff, ff, ff] ?_
           refine pq_ (i := 3) (N := some 23) HT_ #[tt, tt, tt, tt, ff, ff, ff, ff, ff, ff, ff, ff, ff] ?_
           refine pq_ (i := 4) (N := some 24) HT_ #[tt, tt, tt, tt, tt, ff, ff, ff, ff, ff, ff, ff, ff] ?_
           refine pq_ (i := 6) (N := some 26) HT_ #[tt, tt, tt, tt, tt, ff, tt, ff, ff, ff, ff, ff, ff] ?_
           refine pq_ (i := 7) (N := some 27) HT_ #[tt, tt, tt, tt, tt, ff, tt, tt, ff, ff, ff, ff, ff] ?_
           refine pq_ (i := 8) (N := some 28) HT_ #[tt, tt, tt, tt, tt, ff, tt, tt, tt, ff, ff, ff, ff] ?_
           refine take_ (i := 5) (N := some 25) (v := ?_) (a' := ?_) #[tt, tt, tt, tt, tt, tt, tt, tt, tt, ff, ff, ff, ff] rfl rfl (take_ofW HT_.out HW_.out (by kernel_rfl)) (fun _ _ _ h => h) (Or.inl ⟨by rfl, ?_⟩) hHeld ?_ ?_
           rotate_left
           ·rintro w' ⟨s0, s1, s2, s3, s4, s5, s6, s7⟩
            go_simp
            with_reducible rfl
           rotate_left
           ·simp only [Act.put, List.setIfInBounds_toArray, List.set_cons_zero, List.set_cons_succ, i64_w, i32_w]
            rfl
           refine take_ (i := 9) (N := some 29) (v := ?_) (a' := ?_) #[tt, tt, tt, tt, tt, tt, tt, tt, tt, tt, ff, ff, ff] rfl rfl (take_ofW HT_.out HW_.out (by kernel_rfl)) (fun _ _ _ h => h) (Or.inl ⟨by rfl, ?_⟩) hHeld ?_ ?_
           rotate_left
           ·rintro w' ⟨s0, s1, s2, s3, s4, s5, s6, s7⟩
            go_simp
            with_reducible rfl
           rotate_left
           ·simp only [Act.put, List.setIfInBounds_toArray, List.set_cons_zero, List.set_cons_succ, i64_w, i32_w]
            rfl
           refine one_ (i := 10) (N := some 30) #[tt, tt, tt, tt, tt, tt, tt, tt, tt, tt, tt, ff, ff] rfl rfl (one_of HT_.out (by kernel_rfl)) (by decide) (fun K hK => ?_)
           refine goes_ Try.func34 (by kernel_rfl) rfl #[.agg #[.string a1_0, .int .i64 a1_1, .bool a1_2, .string a1_3], .agg #[.string ((rd_T36 l0 x5_1).f0), .int .i64 ((rd_T36 l0 x5_1).f1), .bool ((rd_T36 l0 x5_1).f2), .string ((rd_T36 l0 x5_1).f3)]] (by rfl) rfl rfl (by (try simp only [List.map_toArray, List.map_cons, List.map_nil]); first | done | rfl | (simp only [List.length_drop, List.length_take]; rfl)) ?_
           with_reducible refine (moultref10_Less.calls k1 a1_0 a1_1 a1_2 a1_3 ((rd_T36 l0 x5_1).f0) ((rd_T36 l0 x5_1).f1) ((rd_T36 l0 x5_1).f2) ((rd_T36 l0 x5_1).f3) true _ A10.out).mono ?_
           rintro e w22 ⟨rfl, hb⟩
           have HS4_ := (hb.cell (World.block_lt_of_cell? _ _ (hHeld.2.2.2.2.1))).trans (hHeld.2.2.2.2.1)
           have HS5_ := (hb.cell (World.block_lt_of_cell? _ _ (hHeld.2.2.2.2.2.1))).trans (hHeld.2.2.2.2.2.1)
           have HS6_ := (hb.cell (World.block_lt_of_cell? _ _ (hHeld.2.2.2.2.2.2.1))).trans (hHeld.2.2.2.2.2.2.1)
           have HS7_ := (hb.cell (World.block_lt_of_cell? _ _ (hHeld.2.2.2.2.2.2.2))).trans (hHeld.2.2.2.2.2.2.2)
           refine ⟨_, rfl, ?_⟩
           have n0_ := Aside0.mk (Kd.V_below HO_0.out hb)
           have n1_ := Aside0.mk (blk_below (g := gb325) (o := .cells #[.string a1_0, .int .i64 a1_1, .bool a1_2, .string a1_3] 36 (0, 0)) (by (with_reducible repeat (first | refine blk_drewN ?_ _ | refine blk_drew ?_ | refine blk_alloc ?_ _)); exact BK325.out) hb)
           have n2_ := Aside0.mk (below_step (by repeat (first | (with_reducible first | exact HB.out | apply below_alloc | apply pw_below_drewN | apply below_drew1 | refine below_set ?_ GE325.out) | exact HB.out)) hb)
           clear HO_0
           clear BK325
           clear HB
           have HO_0 := n0_
           have BK325 := n1_
           have HB := n2_
           clear n0_ n1_ n2_
           (try clear hb)
           (try clear hb2)
           (try clear hk)
           (try clear hi)
           refine hK.out _ _ ⟨(blk_cell BK325.out 0).trans rfl, (blk_cell BK325.out 1).trans rfl, (blk_cell BK325.out 2).trans rfl, (blk_cell BK325.out 3).trans rfl, HS4_, HS5_, HS6_, HS7_⟩ (fun hHeld => ?_)
           clear hK K
           refine norm_ (a' := ?_) ?_ ?_
           rotate_left
           ·show Act.put _ (some 30) _ = _
            simp only [Act.put, List.setIfInBounds_toArray, List.set_cons_zero, List.set_cons_succ, i64_w, i32_w]
            rfl
           refine pq_ (i := 11) (N := some 31) HT_ #[tt, tt, tt, tt, tt, tt, tt, tt, tt, tt, tt, tt, ff] ?_
           refine pq_ (i := 12) (N := some 32) HT_ #[tt, tt, tt, tt, tt, tt, tt, tt, tt, tt, tt, tt, tt] ?_
           refine done_ (done_of HT_.out (by kernel_rfl)) ?_
           try go_wp2
           have n0_ := Aside0.mk (Kd.V_drew HO_0.out)
           have n1_ := Aside0.mk (blk_drew BK325.out)
           have n2_ := Aside0.mk (below_drew1 HB.out)
           clear HO_0
           clear BK325
           clear HB
           have HO_0 := n0_
           have BK325 := n1_
           have HB := n2_
           clear n0_ n1_ n2_
           have q24 : (x5_1 : Int) ≤ ((l0.length : Int) : Int) := of_decide_eq_true (by first | (with_reducible assumption) | assumption)
           obtain ⟨i024, hi024, _, hsz24, _⟩ := info_parts info36
           have hroom24 : l0.length ≤ c0 := (Kd.V_reads' HO_0.out).2.1
           have hC24 : Kd.F k36 _ _ (some ad326) l0.length l0 := (Kd.V_at (base := w.heap.size) HO_0.out).2.2
           have hcut24 := cut_to (P := Try.prog) 27 36 .i64 Try.underlying27 hi024 (some ad326) l0.length c0 x5_1 (of_decide_eq_true (by first | (with_reducible assumption) | assumption)) q24 hroom24
           have hr24 := Kd.F_take (m := (x5_1 : Int).toNat) hC24 (by omega)
           have hy24 : y333.length = (x5_1 : Int).toNat := (by rw [Ny333.out, List.length_take]; omega)
           rw [← Ny333.out] at hr24
           rw [← hy24] at hcut24
           have HO337 := Aside0.mk (show Kd.V k36 36 _ w.heap.size _ (.slice (some ad326) y333.length c0) y333 from Kd.V_mk (by omega) hr24)
           have HC337 := Aside0.mk (show y333.length ≤ c0 from by omega)
           clear hr24 hC24 hroom24 hi024 hsz24
           have KY24 := Aside0.mk hy24
           clear hy24
           replace q24 := eq_true q24
           have q25 : (x5_1 : Int) ≤ ((l0.length : Int) : Int) := of_decide_eq_true (by first | (with_reducible assumption) | assumption)
           obtain ⟨i025, hi025, _, hsz25, _⟩ := info_parts info36
           have hroom25 : l0.length ≤ c0 := (Kd.V_reads' HO_0.out).2.1
           have hC25 : Kd.F k36 _ _ (some ad326) l0.length l0 := (Kd.V_at (base := w.heap.size) HO_0.out).2.2
           have q025 : (0 : Int) ≤ (x5_1 : Int) := of_decide_eq_true (by first | (with_reducible assumption) | assumption)
           have hcut25 := cut_from (P := Try.prog) 27 36 .i64 Try.underlying27 hi025 4 hsz25 (some ad326) l0.length c0 x5_1 q025 q25
           have hr25 := Kd.F_cut (m := (x5_1 : Int).toNat) (c := c0) hC25 (by omega) hroom25
           obtain ⟨A25, hA25⟩ : ∃ A1, A1 = (if c0 = (x5_1 : Int).toNat then (some ad326) else ((some ad326) : Option Addr).map (·.add ((x5_1 : Int).toNat * 4))) := ⟨_, rfl⟩
           obtain ⟨c25, hc25⟩ : ∃ c1, c1 = c0 - (x5_1 : Int).toNat := ⟨_, rfl⟩
           have hy25 : y347.length = l0.length - (x5_1 : Int).toNat := (by rw [Ny347.out, List.length_drop] <;> omega)
           rw [show (l0).drop (x5_1 : Int).toNat = y347 from Ny347.out.symm] at hr25
           replace hr25 : Kd.F k36 _ _ A25 y347.length y347 := (by rw [hA25]; exact hr25)
           rw [← hy25, ← hA25, ← hc25] at hcut25
           have HO351 := Aside0.mk (show Kd.V k36 36 _ w.heap.size _ (.slice A25 y347.length c25) y347 from Kd.V_mk (by rw [hy25, hc25]; exact Nat.sub_le_sub_right hroom25 _) hr25)
           have HC351 := Aside0.mk (show y347.length ≤ c25 from by rw [hy25, hc25]; exact Nat.sub_le_sub_right hroom25 _)
           clear hr25 hC25 hroom25 hi025 hsz25 hc25
           have KY25 := Aside0.mk hy25
           have KA25 := Aside0.mk hA25
           clear hy25 hA25
           replace q25 := eq_true q25
           refine start_ (n := 13) (S := fun w' => w'.cell? ⟨gb325, 0, none⟩ = some (.string a1_0) ∧ w'.cell? ⟨gb325, 1, none⟩ = some (.int .i64 a1_1) ∧ w'.cell? ⟨gb325, 2, none⟩ = some (.bool a1_2) ∧ w'.cell? ⟨gb325, 3, none⟩ = some (.string a1_3)) (ds := []) #[ff, ff, ff, ff, ff, ff, ff, ff, ff, ff, ff, ff, ff] (by kernel_rfl) rfl rfl ⟨(blk_cell BK325.out 0).trans rfl, (blk_cell BK325.out 1).trans rfl, (blk_cell BK325.out 2).trans rfl, (blk_cell BK325.out 3).trans rfl⟩ (fun hHeld => ?_); refine with_tabW moultref12_put.tab6 moultref12_put.bits6 (fun HT_ HW_ => ?_)
           generalize w22.drew = w23 at HO_0 BK325 HB HO337 HO351 hHeld ⊢
           refine pq_ (i := 1) (N := some 35) HT_ #[ff, tt, ff, ff, ff, ff, ff, ff, ff, ff, ff, ff, ff] ?_
           refine pq_ (i := 2) (N := some 36) HT_ #[ff, tt, tt, ff, ff, ff, ff, ff, ff, ff, ff, ff, ff] ?_
           refine pq_ (i := 3) (N := some 37) HT_ #[ff, tt, tt, tt, ff, ff, ff, ff, ff, ff, ff, ff, ff] ?_
           refine pq_ (i := 8) (N := some 42) HT_ #[ff, tt, tt, tt, ff, ff, ff, ff, tt, ff, ff, ff, ff] ?_
           refine pq_ (i := 9) (N := some 43) HT_ #[ff, tt, tt, tt, ff, ff, ff, ff, tt, tt, ff, ff, ff] ?_
           refine pq_ (i := 10) (N := some 44) HT_ #[ff, tt, tt, tt, ff, ff, ff, ff, tt, tt, tt, ff, ff] ?_
           refine take_ (i := 5) (N := some 39) (v := ?_) (a' := ?_) #[ff, tt, tt, tt, ff, tt, ff, ff, tt, tt, tt, ff, ff] rfl rfl (take_ofW HT_.out HW_.out (by kernel_rfl)) (fun _ _ _ h => h) (Or.inl ⟨by rfl, ?_⟩) hHeld ?_ ?_
           rotate_left
           ·rintro w' ⟨s0, s1, s2, s3⟩
            go_simp
            with_reducible rfl
           rotate_left
           ·simp only [Act.put, List.setIfInBounds_toArray, List.set_cons_zero, List.set_cons_succ, i64_w, i32_w]
            rfl
           refine join_ (σ := Value × Value × Value) 3 #[tt, tt, tt, tt, tt, tt, tt, ff, tt, tt, tt, ff, ff] (fun s_ => [(34, s_.1), (38, s_.2.1), (40, s_.2.2)]) (fun s_ w' => (w'.cell? ⟨gb325, 0, none⟩ = some (.string a1_0) ∧ w'.cell? ⟨gb325, 1, none⟩ = some (.int .i64 a1_1) ∧ w'.cell? ⟨gb325, 2, none⟩ = some (.bool a1_2) ∧ w'.cell? ⟨gb325, 3, none⟩ = some (.string a1_3)) ∧ (Kd.V k36 36 w' w.heap.size (fun k_ => (P0_ k_ ∨ w.heap.size ≤ k_) ∧ some k_ ≠ (s_.2.1 : Value).ownBlock ∧ some k_ ≠ (s_.2.2 : Value).ownBlock ∧ k_ ≠ gb325) (.slice (some ad326) y333.length c0) y333) ∧ (Kd.R k36 36 w' w.heap.size (fun k_ => (w.heap.size ≤ k_) ∧ some k_ ≠ (s_.2.2 : Value).ownBlock ∧ k_ ≠ gb325) s_.2.1 y338) ∧ (Kd.R k36 36 w' w.heap.size (fun k_ => (w.heap.size ≤ k_) ∧ some k_ ≠ (s_.2.1 : Value).ownBlock ∧ k_ ≠ gb325) s_.2.2 y341) ∧ (Kd.V k36 36 w' w.heap.size (fun k_ => (P0_ k_ ∨ w.heap.size ≤ k_) ∧ some k_ ≠ (s_.2.1 : Value).ownBlock ∧ some k_ ≠ (s_.2.2 : Value).ownBlock ∧ k_ ≠ gb325) (.slice A25 y347.length c25) y347) ∧ (Kd.V k36 36 w' w.heap.size (fun k_ => (P0_ k_ ∨ w.heap.size ≤ k_) ∧ some k_ ≠ (s_.2.1 : Value).ownBlock ∧ some k_ ≠ (s_.2.2 : Value).ownBlock ∧ k_ ≠ gb325) (.slice (some ad326) l0.length c0) l0) ∧ (w'.heap[gb325]? = some (.cells #[.string a1_0, .int .i64 a1_1, .bool a1_2, .string a1_3] 36 (0, 0))) ∧ (Below w.heap.size w w')) ?_ ?_
           rotate_left
           ·intro hCont
            refine two_ (i := 0) (j := 6) (Ni := some 34) (Nj := some 40) #[tt, tt, tt, tt, ff, tt, ff, ff, tt, tt, tt, ff, ff] #[ff, tt, tt, tt, ff, tt, tt, ff, tt, tt, tt, ff, ff] rfl rfl rfl rfl (two_of HT_.out (by kernel_rfl)) (by decide) (by decide) (fun K hK => ?_) (fun K hK => ?_)
            ·skip
             refine Kd.R_lit_step k36 _ 36 ?hg (N := 34) ?hd (xs := ([] : List (S36))) (inner := []) (ok := fun _ => True) (okp := fun _ => True) ?hr ?hp (fun _ hk => hk) trivial (Below.refl _ _) (Nat.le_refl _) (by simp) ?_; (case hd => rfl); (case hg => rfl); (case hr => first | (go_simp; done) | (go_simp; rfl)); (case hp => exact (Reps.none _ _))
             intro v331 w26 ho27 hb hg_ hnew_
             clear hg_ hnew_
             (first | rw [← Ny330.out] at ho27 | (simp only [Int.reduceToNat] at ho27; rw [← Ny330.out] at ho27))
             have n0_ := Aside0.mk (Kd.V_elder' HO_0.out (Kd.R_base ho27) hb)
             have n1_ := Aside0.mk (Kd.V_elder' HO337.out (Kd.R_base ho27) hb)
             have n2_ := Aside0.mk (Kd.V_elder' HO351.out (Kd.R_base ho27) hb)
             have n3_ := Aside0.mk (Kd.R_lower (Kd.R_newB (Kd.R_newM (M := fun k_ => (w.heap.size ≤ k_)) ho27 (below_size (by repeat (first | (with_reducible first | exact HB.out | apply below_alloc | apply pw_below_drewN | apply below_drew1 | refine below_set ?_ GE325.out) | exact HB.out))) (fun k_ h_ => h_)) (g := gb325) (o := .cells #[.string a1_0, .int .i64 a1_1, .bool a1_2, .string a1_3] 36 (0, 0)) (by (with_reducible repeat (first | refine blk_drewN ?_ _ | refine blk_drew ?_ | refine blk_alloc ?_ _)); exact BK325.out)) (below_size (by repeat (first | (with_reducible first | exact HB.out | apply below_alloc | apply pw_below_drewN | apply below_drew1 | refine below_set ?_ GE325.out) | exact HB.out))))
             have n4_ := Aside0.mk (blk_below (g := gb325) (o := .cells #[.string a1_0, .int .i64 a1_1, .bool a1_2, .string a1_3] 36 (0, 0)) (by (with_reducible repeat (first | refine blk_drewN ?_ _ | refine blk_drew ?_ | refine blk_alloc ?_ _)); exact BK325.out) hb)
             have n5_ := Aside0.mk (below_step (by repeat (first | (with_reducible first | exact HB.out | apply below_alloc | apply pw_below_drewN | apply below_drew1 | refine below_set ?_ GE325.out) | exact HB.out)) hb)
             clear HO_0
             clear HO337
             clear HO351
             clear BK325
             clear HB
             have HO_0 := n0_
             have HO337 := n1_
             have HO351 := n2_
             have HO332 := n3_
             have BK325 := n4_
             have HB := n5_
             clear n0_ n1_ n2_ n3_ n4_ n5_
             clear hb ho27
             refine hK.out _ _ ⟨(blk_cell BK325.out 0).trans rfl, (blk_cell BK325.out 1).trans rfl, (blk_cell BK325.out 2).trans rfl, (blk_cell BK325.out 3).trans rfl⟩ (fun hHeld => ?_)
             clear hK K
             refine norm_ (a' := ?_) ?_ ?_
             rotate_left
             ·show Act.put _ (some 34) _ = _
              simp only [Act.put, List.setIfInBounds_toArray, List.set_cons_zero, List.set_cons_succ, i64_w, i32_w]
              rfl
             refine two_ (i := 4) (j := 6) (Ni := some 38) (Nj := some 40) #[tt, tt, tt, tt, tt, tt, ff, ff, tt, tt, tt, ff, ff] #[tt, tt, tt, tt, ff, tt, tt, ff, tt, tt, tt, ff, ff] rfl rfl rfl rfl (two_of HT_.out (by kernel_rfl)) (by decide) (by decide) (fun K hK => ?_) (fun K hK => ?_)
             ·skip
              refine Kd.R_append_rows_step k36 (w0 := w) w.heap.size (by rfl) (.tmp 34) (.tmp 37) 27 36 (.agg #[(.string ⟨#[]⟩), (.int .i64 0), (.bool false), (.string ⟨#[]⟩)]) 48 rfl Try.underlying27 info36 rfl (by decide) (by omega) v331 y330 y333 _ _ _ (fun k_ => (w.heap.size ≤ k_) ∧ k_ ≠ gb325) (fun _ => False) rfl rfl ?aO ?aR (fun _ _ h => h) (fun _ h => h.elim) ?aF ?aB ?aS ?aL ?_
              (case aR => repeat (first | exact (Kd.V_reads' HO337.out).2.2 | (with_reducible refine Kd.C_alloc ?_ _) | (with_reducible refine Kd.C_drewN ?_ _) | (with_reducible refine Kd.C_drew ?_)))
              (case aB => exact (by repeat (first | (with_reducible first | exact HB.out | apply below_alloc | apply pw_below_drewN | apply below_drew1 | refine below_set ?_ GE325.out) | exact HB.out)))
              (case aF => exact (fun k_ hk => ⟨(Nat.le_trans (below_size (by repeat (first | (with_reducible first | exact HB.out | apply below_alloc | apply pw_below_drewN | apply below_drew1 | refine below_set ?_ GE325.out) | exact HB.out))) hk), Kd.freshB (g := gb325) (o := .cells #[.string a1_0, .int .i64 a1_1, .bool a1_2, .string a1_3] 36 (0, 0)) (by (with_reducible repeat (first | refine blk_drewN ?_ _ | refine blk_drew ?_ | refine blk_alloc ?_ _)); exact BK325.out) k_ hk⟩))
              (case aO => exact (by (with_reducible repeat (first | apply Kd.R_alloc | apply Kd.R_drewN | apply Kd.R_drew)); exact Kd.R_mono HO332.out (fun _ hk => ⟨hk.1.1, hk.2⟩)))
              (case aS => exact (below_size (by repeat (first | (with_reducible first | exact HB.out | apply below_alloc | apply pw_below_drewN | apply below_drew1 | refine below_set ?_ GE325.out) | exact HB.out))))
              (case aL => have := LMc14.out; omega)
              intro v339 w28 ho hb hg hat
              rw [← Ny338.out] at ho
              have n0_ := Aside0.mk (Kd.V_afterv (ok := (fun k_ => (P0_ k_ ∨ w.heap.size ≤ k_) ∧ k_ ≠ gb325)) HO_0.out hg hat)
              have n1_ := Aside0.mk (blk_grown (g := gb325) (o := .cells #[.string a1_0, .int .i64 a1_1, .bool a1_2, .string a1_3] 36 (0, 0)) (by (with_reducible repeat (first | refine blk_drewN ?_ _ | refine blk_drew ?_ | refine blk_alloc ?_ _)); exact BK325.out) hg (Kd.R_away HO332.out (fun _ hk => hk.2)))
              have n2_ := Aside0.mk (Kd.V_afterv (ok := (fun k_ => (P0_ k_ ∨ w.heap.size ≤ k_) ∧ k_ ≠ gb325)) HO337.out hg hat)
              have n3_ := Aside0.mk (Kd.V_afterv (ok := (fun k_ => (P0_ k_ ∨ w.heap.size ≤ k_) ∧ k_ ≠ gb325)) HO351.out hg hat)
              have n4_ := Aside0.mk (hb)
              have n5_ := Aside0.mk (ho)
              clear HO_0
              clear BK325
              clear HO337
              clear HO351
              clear HB
              clear HO332
              have HO_0 := n0_
              have BK325 := n1_
              have HO337 := n2_
              have HO351 := n3_
              have HB := n4_
              have HO340 := n5_
              clear n0_ n1_ n2_ n3_ n4_ n5_
              clear ho hb hg hat
              refine hK.out _ _ ⟨(blk_cell BK325.out 0).trans rfl, (blk_cell BK325.out 1).trans rfl, (blk_cell BK325.out 2).trans rfl, (blk_cell BK325.out 3).trans rfl⟩ (fun hHeld => ?_)
              clear hK K
              refine norm_ (a' := ?_) ?_ ?_
              rotate_left
              ·show Act.put _ (some 38) _ = _
               simp only [Act.put, List.setIfInBounds_toArray, List.set_cons_zero, List.set_cons_succ, i64_w, i32_w]
               rfl
              refine one_ (i := 6) (N := some 40) #[tt, tt, tt, tt, tt, tt, tt, ff, tt, tt, tt, ff, ff] rfl rfl (one_of HT_.out (by kernel_rfl)) (by decide) (fun K hK => ?_)
              refine Kd.R_lit_step k36 _ 36 ?hg (N := 40) ?hd (xs := ([(⟨a1_0, a1_1, a1_2, a1_3⟩ : S36)] : List (S36))) (inner := [.string a1_0, .int .i64 a1_1, .bool a1_2, .string a1_3]) (ok := fun _ => True) (okp := fun _ => True) ?hr ?hp (fun _ hk => hk) trivial (Below.refl _ _) (Nat.le_refl _) (by simp) ?_; (case hd => rfl); (case hg => rfl); (case hr => first | (go_simp; done) | (go_simp; rfl)); (case hp => exact (Reps.c4 (show Kd.M k36 _ _ _ (⟨a1_0, a1_1, a1_2, a1_3⟩ : S36) [.string a1_0, .int .i64 a1_1, .bool a1_2, .string a1_3] from (k36_mkM _ _ _ (⟨a1_0, a1_1, a1_2, a1_3⟩ : S36) )) (Reps.none _ _)))
              intro v342 w29 ho30 hb hg_ hnew_
              clear hg_ hnew_
              (first | rw [← Ny341.out] at ho30 | (simp only [Int.reduceToNat] at ho30; rw [← Ny341.out] at ho30))
              have n0_ := Aside0.mk (Kd.V_elder' HO_0.out (Kd.R_base ho30) hb)
              have n1_ := Aside0.mk (Kd.V_elder' HO337.out (Kd.R_base ho30) hb)
              have n2_ := Aside0.mk (Kd.V_elder' HO351.out (Kd.R_base ho30) hb)
              have n3_ := Aside0.mk (Kd.R_elder' HO340.out (Kd.R_base ho30) hb)
              have n4_ := Aside0.mk (Kd.R_lower (Kd.R_newB (Kd.R_new' (Kd.R_newM (M := fun k_ => (w.heap.size ≤ k_)) ho30 (below_size (by repeat (first | (with_reducible first | exact HB.out | apply below_alloc | apply pw_below_drewN | apply below_drew1 | refine below_set ?_ GE325.out) | exact HB.out))) (fun k_ h_ => h_)) (Kd.R_lt HO340.out)) (g := gb325) (o := .cells #[.string a1_0, .int .i64 a1_1, .bool a1_2, .string a1_3] 36 (0, 0)) (by (with_reducible repeat (first | refine blk_drewN ?_ _ | refine blk_drew ?_ | refine blk_alloc ?_ _)); exact BK325.out)) (below_size (by repeat (first | (with_reducible first | exact HB.out | apply below_alloc | apply pw_below_drewN | apply below_drew1 | refine below_set ?_ GE325.out) | exact HB.out))))
              have n5_ := Aside0.mk (blk_below (g := gb325) (o := .cells #[.string a1_0, .int .i64 a1_1, .bool a1_2, .string a1_3] 36 (0, 0)) (by (with_reducible repeat (first | refine blk_drewN ?_ _ | refine blk_drew ?_ | refine blk_alloc ?_ _)); exact BK325.out) hb)
              have n6_ := Aside0.mk (below_step (by repeat (first | (with_reducible first | exact HB.out | apply below_alloc | apply pw_below_drewN | apply below_drew1 | refine below_set ?_ GE325.out) | exact HB.out)) hb)
              clear HO_0
              clear HO337
              clear HO351
              clear HO340
              clear BK325
              clear HB
              have HO_0 := n0_
              have HO337 := n1_
              have HO351 := n2_
              have HO340 := n3_
              have HO343 := n4_
              have BK325 := n5_
              have HB := n6_
              clear n0_ n1_ n2_ n3_ n4_ n5_ n6_
              clear hb ho30
              refine hK.out _ _ ⟨(blk_cell BK325.out 0).trans rfl, (blk_cell BK325.out 1).trans rfl, (blk_cell BK325.out 2).trans rfl, (blk_cell BK325.out 3).trans rfl⟩ (fun hHeld => ?_)
              clear hK K
              refine norm_ (a' := ?_) ?_ ?_
              rotate_left
              ·show Act.put _ (some 40) _ = _
               simp only [Act.put, List.setIfInBounds_toArray, List.set_cons_zero, List.set_cons_succ, i64_w, i32_w]
               rfl
              exact norm_ (by simp only [putAll, Act.put, List.setIfInBounds_toArray, List.set_cons_zero, List.set_cons_succ]) (hCont (v331, v339, v342) _ ⟨hHeld, (by (with_reducible repeat (first | apply Kd.V_alloc | apply Kd.V_drewN | apply Kd.V_drew)); exact Kd.V_mono HO337.out (fun _ hk => ⟨hk.1.1.1, ⟨hk.1.2, ⟨hk.2, hk.1.1.2⟩⟩⟩)), (by (with_reducible repeat (first | apply Kd.R_alloc | apply Kd.R_drewN | apply Kd.R_drew)); exact Kd.R_mono HO340.out (fun _ hk => ⟨hk.1.1, ⟨hk.2, hk.1.2⟩⟩)), (by (with_reducible repeat (first | apply Kd.R_alloc | apply Kd.R_drewN | apply Kd.R_drew)); exact Kd.R_mono HO343.out (fun _ hk => ⟨hk.1.1.1, ⟨hk.1.2, hk.2⟩⟩)), (by (with_reducible repeat (first | apply Kd.V_alloc | apply Kd.V_drewN | apply Kd.V_drew)); exact Kd.V_mono HO351.out (fun _ hk => ⟨hk.1.1.1, ⟨hk.1.2, ⟨hk.2, hk.1.1.2⟩⟩⟩)), (by (with_reducible repeat (first | apply Kd.V_alloc | apply Kd.V_drewN | apply Kd.V_drew)); exact Kd.V_mono HO_0.out (fun _ hk => ⟨hk.1.1.1, ⟨hk.1.2, ⟨hk.2, hk.1.1.2⟩⟩⟩)), (by (with_reducible repeat (first | refine blk_drewN ?_ _ | refine blk_drew ?_ | refine blk_alloc ?_ _)); exact BK325.out), (by repeat (first | (with_reducible first | exact HB.out | apply below_alloc | apply pw_below_drewN | apply below_drew1 | refine below_set ?_ GE325.out) | exact HB.out))⟩)
             ·skip
              refine Kd.R_lit_step k36 _ 36 ?hg (N := 40) ?hd (xs := ([(⟨a1_0, a1_1, a1_2, a1_3⟩ : S36)] : List (S36))) (inner := [.string a1_0, .int .i64 a1_1, .bool a1_2, .string a1_3]) (ok := fun _ => True) (okp := fun _ => True) ?hr ?hp (fun _ hk => hk) trivial (Below.refl _ _) (Nat.le_refl _) (by simp) ?_; (case hd => rfl); (case hg => rfl); (case hr => first | (go_simp; done) | (go_simp; rfl)); (case hp => exact (Reps.c4 (show Kd.M k36 _ _ _ (⟨a1_0, a1_1, a1_2, a1_3⟩ : S36) [.string a1_0, .int .i64 a1_1, .bool a1_2, .string a1_3] from (k36_mkM _ _ _ (⟨a1_0, a1_1, a1_2, a1_3⟩ : S36) )) (Reps.none _ _)))
              intro v342 w28 ho29 hb hg_ hnew_
              clear hg_ hnew_
              (first | rw [← Ny341.out] at ho29 | (simp only [Int.reduceToNat] at ho29; rw [← Ny341.out] at ho29))
              have n0_ := Aside0.mk (Kd.V_elder' HO_0.out (Kd.R_base ho29) hb)
              have n1_ := Aside0.mk (Kd.V_elder' HO337.out (Kd.R_base ho29) hb)
              have n2_ := Aside0.mk (Kd.V_elder' HO351.out (Kd.R_base ho29) hb)
              have n3_ := Aside0.mk (Kd.R_elder' HO332.out (Kd.R_base ho29) hb)
              have n4_ := Aside0.mk (Kd.R_lower (Kd.R_newB (Kd.R_new' (Kd.R_newM (M := fun k_ => (w.heap.size ≤ k_)) ho29 (below_size (by repeat (first | (with_reducible first | exact HB.out | apply below_alloc | apply pw_below_drewN | apply below_drew1 | refine below_set ?_ GE325.out) | exact HB.out))) (fun k_ h_ => h_)) (Kd.R_lt HO332.out)) (g := gb325) (o := .cells #[.string a1_0, .int .i64 a1_1, .bool a1_2, .string a1_3] 36 (0, 0)) (by (with_reducible repeat (first | refine blk_drewN ?_ _ | refine blk_drew ?_ | refine blk_alloc ?_ _)); exact BK325.out)) (below_size (by repeat (first | (with_reducible first | exact HB.out | apply below_alloc | apply pw_below_drewN | apply below_drew1 | refine below_set ?_ GE325.out) | exact HB.out))))
              have n5_ := Aside0.mk (blk_below (g := gb325) (o := .cells #[.string a1_0, .int .i64 a1_1, .bool a1_2, .string a1_3] 36 (0, 0)) (by (with_reducible repeat (first | refine blk_drewN ?_ _ | refine blk_drew ?_ | refine blk_alloc ?_ _)); exact BK325.out) hb)
              have n6_ := Aside0.mk (below_step (by repeat (first | (with_reducible first | exact HB.out | apply below_alloc | apply pw_below_drewN | apply below_drew1 | refine below_set ?_ GE325.out) | exact HB.out)) hb)
              clear HO_0
              clear HO337
              clear HO351
              clear HO332
              clear BK325
              clear HB
              have HO_0 := n0_
              have HO337 := n1_
              have HO351 := n2_
              have HO332 := n3_
              have HO343 := n4_
              have BK325 := n5_
              have HB := n6_
              clear n0_ n1_ n2_ n3_ n4_ n5_ n6_
              clear hb ho29
              refine hK.out _ _ ⟨(blk_cell BK325.out 0).trans rfl, (blk_cell BK325.out 1).trans rfl, (blk_cell BK325.out 2).trans rfl, (blk_cell BK325.out 3).trans rfl⟩ (fun hHeld => ?_)
              clear hK K
              refine norm_ (a' := ?_) ?_ ?_
              rotate_left
              ·show Act.put _ (some 40) _ = _
               simp only [Act.put, List.setIfInBounds_toArray, List.set_cons_zero, List.set_cons_succ, i64_w, i32_w]
               rfl
              refine one_ (i := 4) (N := some 38) #[tt, tt, tt, tt, tt, tt, tt, ff, tt, tt, tt, ff, ff] rfl rfl (one_of HT_.out (by kernel_rfl)) (by decide) (fun K hK => ?_)
              refine Kd.R_append_rows_step k36 (w0 := w) w.heap.size (by rfl) (.tmp 34) (.tmp 37) 27 36 (.agg #[(.string ⟨#[]⟩), (.int .i64 0), (.bool false), (.string ⟨#[]⟩)]) 48 rfl Try.underlying27 info36 rfl (by decide) (by omega) v331 y330 y333 _ _ _ (fun k_ => (w.heap.size ≤ k_) ∧ some k_ ≠ (v342 : Value).ownBlock ∧ k_ ≠ gb325) (fun _ => False) rfl rfl ?aO ?aR (fun _ _ h => h) (fun _ h => h.elim) ?aF ?aB ?aS ?aL ?_
              (case aR => repeat (first | exact (Kd.V_reads' HO337.out).2.2 | (with_reducible refine Kd.C_alloc ?_ _) | (with_reducible refine Kd.C_drewN ?_ _) | (with_reducible refine Kd.C_drew ?_)))
              (case aB => exact (by repeat (first | (with_reducible first | exact HB.out | apply below_alloc | apply pw_below_drewN | apply below_drew1 | refine below_set ?_ GE325.out) | exact HB.out)))
              (case aF => exact (fun k_ hk => ⟨(Nat.le_trans (below_size (by repeat (first | (with_reducible first | exact HB.out | apply below_alloc | apply pw_below_drewN | apply below_drew1 | refine below_set ?_ GE325.out) | exact HB.out))) hk), Kd.fresh' (Kd.R_lt HO343.out) k_ hk, Kd.freshB (g := gb325) (o := .cells #[.string a1_0, .int .i64 a1_1, .bool a1_2, .string a1_3] 36 (0, 0)) (by (with_reducible repeat (first | refine blk_drewN ?_ _ | refine blk_drew ?_ | refine blk_alloc ?_ _)); exact BK325.out) k_ hk⟩))
              (case aO => exact (by (with_reducible repeat (first | apply Kd.R_alloc | apply Kd.R_drewN | apply Kd.R_drew)); exact Kd.R_mono HO332.out (fun _ hk => ⟨hk.1.1.1, ⟨hk.2, hk.1.2⟩⟩)))
              (case aS => exact (below_size (by repeat (first | (with_reducible first | exact HB.out | apply below_alloc | apply pw_below_drewN | apply below_drew1 | refine below_set ?_ GE325.out) | exact HB.out))))
              (case aL => have := LMc14.out; omega)
              intro v339 w30 ho hb hg hat
              rw [← Ny338.out] at ho
              have n0_ := Aside0.mk (Kd.V_afterv (ok := (fun k_ => (P0_ k_ ∨ w.heap.size ≤ k_) ∧ some k_ ≠ (v342 : Value).ownBlock ∧ k_ ≠ gb325)) (by (with_reducible repeat (first | apply Kd.V_alloc | apply Kd.V_drewN | apply Kd.V_drew)); exact Kd.V_mono HO_0.out (fun _ hk => ⟨⟨hk.1.1.1, ⟨hk.2, hk.1.1.2⟩⟩, hk.1.2⟩)) hg hat)
              have n1_ := Aside0.mk (blk_grown (g := gb325) (o := .cells #[.string a1_0, .int .i64 a1_1, .bool a1_2, .string a1_3] 36 (0, 0)) (by (with_reducible repeat (first | refine blk_drewN ?_ _ | refine blk_drew ?_ | refine blk_alloc ?_ _)); exact BK325.out) hg (Kd.R_away HO332.out (fun _ hk => hk.1.2)))
              have n2_ := Aside0.mk (Kd.V_afterv (ok := (fun k_ => (P0_ k_ ∨ w.heap.size ≤ k_) ∧ some k_ ≠ (v342 : Value).ownBlock ∧ k_ ≠ gb325)) (by (with_reducible repeat (first | apply Kd.V_alloc | apply Kd.V_drewN | apply Kd.V_drew)); exact Kd.V_mono HO337.out (fun _ hk => ⟨⟨hk.1.1.1, ⟨hk.2, hk.1.1.2⟩⟩, hk.1.2⟩)) hg hat)
              have n3_ := Aside0.mk (Kd.V_afterv (ok := (fun k_ => (P0_ k_ ∨ w.heap.size ≤ k_) ∧ some k_ ≠ (v342 : Value).ownBlock ∧ k_ ≠ gb325)) (by (with_reducible repeat (first | apply Kd.V_alloc | apply Kd.V_drewN | apply Kd.V_drew)); exact Kd.V_mono HO351.out (fun _ hk => ⟨⟨hk.1.1.1, ⟨hk.2, hk.1.1.2⟩⟩, hk.1.2⟩)) hg hat)
              have n4_ := Aside0.mk (Kd.R_after (ok := (fun k_ => (w.heap.size ≤ k_) ∧ k_ ≠ gb325)) (by (with_reducible repeat (first | apply Kd.R_alloc | apply Kd.R_drewN | apply Kd.R_drew)); exact Kd.R_mono HO343.out (fun _ hk => ⟨⟨hk.1.1.1, hk.2⟩, hk.1.2⟩)) hg hat)
              have n5_ := Aside0.mk (hb)
              have n6_ := Aside0.mk (ho)
              clear HO_0
              clear BK325
              clear HO337
              clear HO351
              clear HO343
              clear HB
              clear HO332
              have HO_0 := n0_
              have BK325 := n1_
              have HO337 := n2_
              have HO351 := n3_
              have HO343 := n4_
              have HB := n5_
              have HO340 := n6_
              clear n0_ n1_ n2_ n3_ n4_ n5_ n6_
              clear ho hb hg hat
              refine hK.out _ _ ⟨(blk_cell BK325.out 0).trans rfl, (blk_cell BK325.out 1).trans rfl, (blk_cell BK325.out 2).trans rfl, (blk_cell BK325.out 3).trans rfl⟩ (fun hHeld => ?_)
              clear hK K
              refine norm_ (a' := ?_) ?_ ?_
              rotate_left
              ·show Act.put _ (some 38) _ = _
               simp only [Act.put, List.setIfInBounds_toArray, List.set_cons_zero, List.set_cons_succ, i64_w, i32_w]
               rfl
              exact norm_ (by simp only [putAll, Act.put, List.setIfInBounds_toArray, List.set_cons_zero, List.set_cons_succ]) (hCont (v331, v339, v342) _ ⟨hHeld, (by (with_reducible repeat (first | apply Kd.V_alloc | apply Kd.V_drewN | apply Kd.V_drew)); exact Kd.V_mono HO337.out (fun _ hk => ⟨hk.1.1, ⟨hk.2, ⟨hk.1.2.1, hk.1.2.2⟩⟩⟩)), HO340.out, (by (with_reducible repeat (first | apply Kd.R_alloc | apply Kd.R_drewN | apply Kd.R_drew)); exact Kd.R_mono HO343.out (fun _ hk => ⟨hk.1.1, ⟨hk.2, hk.1.2⟩⟩)), (by (with_reducible repeat (first | apply Kd.V_alloc | apply Kd.V_drewN | apply Kd.V_drew)); exact Kd.V_mono HO351.out (fun _ hk => ⟨hk.1.1, ⟨hk.2, ⟨hk.1.2.1, hk.1.2.2⟩⟩⟩)), (by (with_reducible repeat (first | apply Kd.V_alloc | apply Kd.V_drewN | apply Kd.V_drew)); exact Kd.V_mono HO_0.out (fun _ hk => ⟨hk.1.1, ⟨hk.2, ⟨hk.1.2.1, hk.1.2.2⟩⟩⟩)), (by (with_reducible repeat (first | refine blk_drewN ?_ _ | refine blk_drew ?_ | refine blk_alloc ?_ _)); exact BK325.out), (by repeat (first | (with_reducible first | exact HB.out | apply below_alloc | apply pw_below_drewN | apply below_drew1 | refine below_set ?_ GE325.out) | exact HB.out))⟩)
            ·skip
             refine Kd.R_lit_step k36 _ 36 ?hg (N := 40) ?hd (xs := ([(⟨a1_0, a1_1, a1_2, a1_3⟩ : S36)] : List (S36))) (inner := [.string a1_0, .int .i64 a1_1, .bool a1_2, .string a1_3]) (ok := fun _ => True) (okp := fun _ => True) ?hr ?hp (fun _ hk => hk) trivial (Below.refl _ _) (Nat.le_refl _) (by simp) ?_; (case hd => rfl); (case hg => rfl); (case hr => first | (go_simp; done) | (go_simp; rfl)); (case hp => exact (Reps.c4 (show Kd.M k36 _ _ _ (⟨a1_0, a1_1, a1_2, a1_3⟩ : S36) [.string a1_0, .int .i64 a1_1, .bool a1_2, .string a1_3] from (k36_mkM _ _ _ (⟨a1_0, a1_1, a1_2, a1_3⟩ : S36) )) (Reps.none _ _)))
             intro v342 w26 ho27 hb hg_ hnew_
             clear hg_ hnew_
             (first | rw [← Ny341.out] at ho27 | (simp only [Int.reduceToNat] at ho27; rw [← Ny341.out] at ho27))
             have n0_ := Aside0.mk (Kd.V_elder' HO_0.out (Kd.R_base ho27) hb)
             have n1_ := Aside0.mk (Kd.V_elder' HO337.out (Kd.R_base ho27) hb)
             have n2_ := Aside0.mk (Kd.V_elder' HO351.out (Kd.R_base ho27) hb)
             have n3_ := Aside0.mk (Kd.R_lower (Kd.R_newB (Kd.R_newM (M := fun k_ => (w.heap.size ≤ k_)) ho27 (below_size (by repeat (first | (with_reducible first | exact HB.out | apply below_alloc | apply pw_below_drewN | apply below_drew1 | refine below_set ?_ GE325.out) | exact HB.out))) (fun k_ h_ => h_)) (g := gb325) (o := .cells #[.string a1_0, .int .i64 a1_1, .bool a1_2, .string a1_3] 36 (0, 0)) (by (with_reducible repeat (first | refine blk_drewN ?_ _ | refine blk_drew ?_ | refine blk_alloc ?_ _)); exact BK325.out)) (below_size (by repeat (first | (with_reducible first | exact HB.out | apply below_alloc | apply pw_below_drewN | apply below_drew1 | refine below_set ?_ GE325.out) | exact HB.out))))
             have n4_ := Aside0.mk (blk_below (g := gb325) (o := .cells #[.string a1_0, .int .i64 a1_1, .bool a1_2, .string a1_3] 36 (0, 0)) (by (with_reducible repeat (first | refine blk_drewN ?_ _ | refine blk_drew ?_ | refine blk_alloc ?_ _)); exact BK325.out) hb)
             have n5_ := Aside0.mk (below_step (by repeat (first | (with_reducible first | exact HB.out | apply below_alloc | apply pw_below_drewN | apply below_drew1 | refine below_set ?_ GE325.out) | exact HB.out)) hb)
             clear HO_0
             clear HO337
             clear HO351
             clear BK325
             clear HB
             have HO_0 := n0_
             have HO337 := n1_
             have HO351 := n2_
             have HO343 := n3_
             have BK325 := n4_
             have HB := n5_
             clear n0_ n1_ n2_ n3_ n4_ n5_
             clear hb ho27
             refine hK.out _ _ ⟨(blk_cell BK325.out 0).trans rfl, (blk_cell BK325.out 1).trans rfl, (blk_cell BK325.out 2).trans rfl, (blk_cell BK325.out 3).trans rfl⟩ (fun hHeld => ?_)
             clear hK K
             refine norm_ (a' := ?_) ?_ ?_
             rotate_left
             ·show Act.put _ (some 40) _ = _
              simp only [Act.put, List.setIfInBounds_toArray, List.set_cons_zero, List.set_cons_succ, i64_w, i32_w]
              rfl
             refine one_ (i := 0) (N := some 34) #[tt, tt, tt, tt, ff, tt, tt, ff, tt, tt, tt, ff, ff] rfl rfl (one_of HT_.out (by kernel_rfl)) (by decide) (fun K hK => ?_)
             refine Kd.R_lit_step k36 _ 36 ?hg (N := 34) ?hd (xs := ([] : List (S36))) (inner := []) (ok := fun _ => True) (okp := fun _ => True) ?hr ?hp (fun _ hk => hk) trivial (Below.refl _ _) (Nat.le_refl _) (by simp) ?_; (case hd => rfl); (case hg => rfl); (case hr => first | (go_simp; done) | (go_simp; rfl)); (case hp => exact (Reps.none _ _))
             intro v331 w28 ho29 hb hg_ hnew_
             clear hg_ hnew_
             (first | rw [← Ny330.out] at ho29 | (simp only [Int.reduceToNat] at ho29; rw [← Ny330.out] at ho29))
             have n0_ := Aside0.mk (Kd.V_elder' HO_0.out (Kd.R_base ho29) hb)
             have n1_ := Aside0.mk (Kd.V_elder' HO337.out (Kd.R_base ho29) hb)
             have n2_ := Aside0.mk (Kd.V_elder' HO351.out (Kd.R_base ho29) hb)
             have n3_ := Aside0.mk (Kd.R_elder' HO343.out (Kd.R_base ho29) hb)
             have n4_ := Aside0.mk (Kd.R_lower (Kd.R_newB (Kd.R_new' (Kd.R_newM (M := fun k_ => (w.heap.size ≤ k_)) ho29 (below_size (by repeat (first | (with_reducible first | exact HB.out | apply below_alloc | apply pw_below_drewN | apply below_drew1 | refine below_set ?_ GE325.out) | exact HB.out))) (fun k_ h_ => h_)) (Kd.R_lt HO343.out)) (g := gb325) (o := .cells #[.string a1_0, .int .i64 a1_1, .bool a1_2, .string a1_3] 36 (0, 0)) (by (with_reducible repeat (first | refine blk_drewN ?_ _ | refine blk_drew ?_ | refine blk_alloc ?_ _)); exact BK325.out)) (below_size (by repeat (first | (with_reducible first | exact HB.out | apply below_alloc | apply pw_below_drewN | apply below_drew1 | refine below_set ?_ GE325.out) | exact HB.out))))
             have n5_ := Aside0.mk (blk_below (g := gb325) (o := .cells #[.string a1_0, .int .i64 a1_1, .bool a1_2, .string a1_3] 36 (0, 0)) (by (with_reducible repeat (first | refine blk_drewN ?_ _ | refine blk_drew ?_ | refine blk_alloc ?_ _)); exact BK325.out) hb)
             have n6_ := Aside0.mk (below_step (by repeat (first | (with_reducible first | exact HB.out | apply below_alloc | apply pw_below_drewN | apply below_drew1 | refine below_set ?_ GE325.out) | exact HB.out)) hb)
             clear HO_0
             clear HO337
             clear HO351
             clear HO343
             clear BK325
             clear HB
             have HO_0 := n0_
             have HO337 := n1_
             have HO351 := n2_
             have HO343 := n3_
             have HO332 := n4_
             have BK325 := n5_
             have HB := n6_
             clear n0_ n1_ n2_ n3_ n4_ n5_ n6_
             clear hb ho29
             refine hK.out _ _ ⟨(blk_cell BK325.out 0).trans rfl, (blk_cell BK325.out 1).trans rfl, (blk_cell BK325.out 2).trans rfl, (blk_cell BK325.out 3).trans rfl⟩ (fun hHeld => ?_)
             clear hK K
             refine norm_ (a' := ?_) ?_ ?_
             rotate_left
             ·show Act.put _ (some 34) _ = _
              simp only [Act.put, List.setIfInBounds_toArray, List.set_cons_zero, List.set_cons_succ, i64_w, i32_w]
              rfl
             refine one_ (i := 4) (N := some 38) #[tt, tt, tt, tt, tt, tt, tt, ff, tt, tt, tt, ff, ff] rfl rfl (one_of HT_.out (by kernel_rfl)) (by decide) (fun K hK => ?_)
             refine Kd.R_append_rows_step k36 (w0 := w) w.heap.size (by rfl) (.tmp 34) (.tmp 37) 27 36 (.agg #[(.string ⟨#[]⟩), (.int .i64 0), (.bool false), (.string ⟨#[]⟩)]) 48 rfl Try.underlying27 info36 rfl (by decide) (by omega) v331 y330 y333 _ _ _ (fun k_ => (w.heap.size ≤ k_) ∧ some k_ ≠ (v342 : Value).ownBlock ∧ k_ ≠ gb325) (fun _ => False) rfl rfl ?aO ?aR (fun _ _ h => h) (fun _ h => h.elim) ?aF ?aB ?aS ?aL ?_
             (case aR => repeat (first | exact (Kd.V_reads' HO337.out).2.2 | (with_reducible refine Kd.C_alloc ?_ _) | (with_reducible refine Kd.C_drewN ?_ _) | (with_reducible refine Kd.C_drew ?_)))
             (case aB => exact (by repeat (first | (with_reducible first | exact HB.out | apply below_alloc | apply pw_below_drewN | apply below_drew1 | refine below_set ?_ GE325.out) | exact HB.out)))
             (case aF => exact (fun k_ hk => ⟨(Nat.le_trans (below_size (by repeat (first | (with_reducible first | exact HB.out | apply below_alloc | apply pw_below_drewN | apply below_drew1 | refine below_set ?_ GE325.out) | exact HB.out))) hk), Kd.fresh' (Kd.R_lt HO343.out) k_ hk, Kd.freshB (g := gb325) (o := .cells #[.string a1_0, .int .i64 a1_1, .bool a1_2, .string a1_3] 36 (0, 0)) (by (with_reducible repeat (first | refine blk_drewN ?_ _ | refine blk_drew ?_ | refine blk_alloc ?_ _)); exact BK325.out) k_ hk⟩))
             (case aO => exact (by (with_reducible repeat (first | apply Kd.R_alloc | apply Kd.R_drewN | apply Kd.R_drew)); exact Kd.R_mono HO332.out (fun _ hk => ⟨hk.1.1.1, ⟨hk.1.2, hk.2⟩⟩)))
             (case aS => exact (below_size (by repeat (first | (with_reducible first | exact HB.out | apply below_alloc | apply pw_below_drewN | apply below_drew1 | refine below_set ?_ GE325.out) | exact HB.out))))
             (case aL => have := LMc14.out; omega)
             intro v339 w30 ho hb hg hat
             rw [← Ny338.out] at ho
             have n0_ := Aside0.mk (Kd.V_afterv (ok := (fun k_ => (P0_ k_ ∨ w.heap.size ≤ k_) ∧ some k_ ≠ (v342 : Value).ownBlock ∧ k_ ≠ gb325)) (by (with_reducible repeat (first | apply Kd.V_alloc | apply Kd.V_drewN | apply Kd.V_drew)); exact Kd.V_mono HO_0.out (fun _ hk => ⟨⟨hk.1.1.1, ⟨hk.1.2, hk.1.1.2⟩⟩, hk.2⟩)) hg hat)
             have n1_ := Aside0.mk (blk_grown (g := gb325) (o := .cells #[.string a1_0, .int .i64 a1_1, .bool a1_2, .string a1_3] 36 (0, 0)) (by (with_reducible repeat (first | refine blk_drewN ?_ _ | refine blk_drew ?_ | refine blk_alloc ?_ _)); exact BK325.out) hg (Kd.R_away HO332.out (fun _ hk => hk.2)))
             have n2_ := Aside0.mk (Kd.V_afterv (ok := (fun k_ => (P0_ k_ ∨ w.heap.size ≤ k_) ∧ some k_ ≠ (v342 : Value).ownBlock ∧ k_ ≠ gb325)) (by (with_reducible repeat (first | apply Kd.V_alloc | apply Kd.V_drewN | apply Kd.V_drew)); exact Kd.V_mono HO337.out (fun _ hk => ⟨⟨hk.1.1.1, ⟨hk.1.2, hk.1.1.2⟩⟩, hk.2⟩)) hg hat)
             have n3_ := Aside0.mk (Kd.V_afterv (ok := (fun k_ => (P0_ k_ ∨ w.heap.size ≤ k_) ∧ some k_ ≠ (v342 : Value).ownBlock ∧ k_ ≠ gb325)) (by (with_reducible repeat (first | apply Kd.V_alloc | apply Kd.V_drewN | apply Kd.V_drew)); exact Kd.V_mono HO351.out (fun _ hk => ⟨⟨hk.1.1.1, ⟨hk.1.2, hk.1.1.2⟩⟩, hk.2⟩)) hg hat)
             have n4_ := Aside0.mk (Kd.R_after (ok := (fun k_ => (w.heap.size ≤ k_) ∧ k_ ≠ gb325)) (by (with_reducible repeat (first | apply Kd.R_alloc | apply Kd.R_drewN | apply Kd.R_drew)); exact Kd.R_mono HO343.out (fun _ hk => ⟨⟨hk.1.1.1, hk.1.2⟩, hk.2⟩)) hg hat)
             have n5_ := Aside0.mk (hb)
             have n6_ := Aside0.mk (ho)
             clear HO_0
             clear BK325
             clear HO337
             clear HO351
             clear HO343
             clear HB
             clear HO332
             have HO_0 := n0_
             have BK325 := n1_
             have HO337 := n2_
             have HO351 := n3_
             have HO343 := n4_
             have HB := n5_
             have HO340 := n6_
             clear n0_ n1_ n2_ n3_ n4_ n5_ n6_
             clear ho hb hg hat
             refine hK.out _ _ ⟨(blk_cell BK325.out 0).trans rfl, (blk_cell BK325.out 1).trans rfl, (blk_cell BK325.out 2).trans rfl, (blk_cell BK325.out 3).trans rfl⟩ (fun hHeld => ?_)
             clear hK K
             refine norm_ (a' := ?_) ?_ ?_
             rotate_left
             ·show Act.put _ (some 38) _ = _
              simp only [Act.put, List.setIfInBounds_toArray, List.set_cons_zero, List.set_cons_succ, i64_w, i32_w]
              rfl
             exact norm_ (by simp only [putAll, Act.put, List.setIfInBounds_toArray, List.set_cons_zero, List.set_cons_succ]) (hCont (v331, v339, v342) _ ⟨hHeld, (by (with_reducible repeat (first | apply Kd.V_alloc | apply Kd.V_drewN | apply Kd.V_drew)); exact Kd.V_mono HO337.out (fun _ hk => ⟨hk.1.1, ⟨hk.2, ⟨hk.1.2.1, hk.1.2.2⟩⟩⟩)), HO340.out, (by (with_reducible repeat (first | apply Kd.R_alloc | apply Kd.R_drewN | apply Kd.R_drew)); exact Kd.R_mono HO343.out (fun _ hk => ⟨hk.1.1, ⟨hk.2, hk.1.2⟩⟩)), (by (with_reducible repeat (first | apply Kd.V_alloc | apply Kd.V_drewN | apply Kd.V_drew)); exact Kd.V_mono HO351.out (fun _ hk => ⟨hk.1.1, ⟨hk.2, ⟨hk.1.2.1, hk.1.2.2⟩⟩⟩)), (by (with_reducible repeat (first | apply Kd.V_alloc | apply Kd.V_drewN | apply Kd.V_drew)); exact Kd.V_mono HO_0.out (fun _ hk => ⟨hk.1.1, ⟨hk.2, ⟨hk.1.2.1, hk.1.2.2⟩⟩⟩)), (by (with_reducible repeat (first | refine blk_drewN ?_ _ | refine blk_drew ?_ | refine blk_alloc ?_ _)); exact BK325.out), (by repeat (first | (with_reducible first | exact HB.out | apply below_alloc | apply pw_below_drewN | apply below_drew1 | refine below_set ?_ GE325.out) | exact HB.out))⟩)
           rintro ⟨v331, v339, v342⟩ w31 ⟨hS_, h0_, h1_, h2_, h3_, h4_, h5_, h6_⟩
           have n0_ : Aside0 (Kd.V k36 36 w31 w.heap.size (fun k_ => (P0_ k_ ∨ w.heap.size ≤ k_) ∧ some k_ ≠ (v339 : Value).ownBlock ∧ some k_ ≠ (v342 : Value).ownBlock ∧ k_ ≠ gb325) (.slice (some ad326) y333.length c0) y333) := ⟨h0_⟩
           have n1_ : Aside0 (Kd.R k36 36 w31 w.heap.size (fun k_ => (w.heap.size ≤ k_) ∧ some k_ ≠ (v342 : Value).ownBlock ∧ k_ ≠ gb325) v339 y338) := ⟨h1_⟩
           have n2_ : Aside0 (Kd.R k36 36 w31 w.heap.size (fun k_ => (w.heap.size ≤ k_) ∧ some k_ ≠ (v339 : Value).ownBlock ∧ k_ ≠ gb325) v342 y341) := ⟨h2_⟩
           have n3_ : Aside0 (Kd.V k36 36 w31 w.heap.size (fun k_ => (P0_ k_ ∨ w.heap.size ≤ k_) ∧ some k_ ≠ (v339 : Value).ownBlock ∧ some k_ ≠ (v342 : Value).ownBlock ∧ k_ ≠ gb325) (.slice A25 y347.length c25) y347) := ⟨h3_⟩
           have n4_ : Aside0 (Kd.V k36 36 w31 w.heap.size (fun k_ => (P0_ k_ ∨ w.heap.size ≤ k_) ∧ some k_ ≠ (v339 : Value).ownBlock ∧ some k_ ≠ (v342 : Value).ownBlock ∧ k_ ≠ gb325) (.slice (some ad326) l0.length c0) l0) := ⟨h4_⟩
           have n5_ : Aside0 (w31.heap[gb325]? = some (.cells #[.string a1_0, .int .i64 a1_1, .bool a1_2, .string a1_3] 36 (0, 0))) := ⟨h5_⟩
           have n6_ : Aside0 (Below w.heap.size w w31) := ⟨h6_⟩
           clear HO_0
           clear BK325
           clear HB
           clear h0_ h1_ h2_ h3_ h4_ h5_ h6_
           have HO337 := n0_
           have HO340 := n1_
           have HO343 := n2_
           have HO351 := n3_
           have HO_0 := n4_
           have BK325 := n5_
           have HB := n6_
           clear n0_ n1_ n2_ n3_ n4_ n5_ n6_
           have hHeld : w31.cell? ⟨gb325, 0, none⟩ = some (.string a1_0) ∧ w31.cell? ⟨gb325, 1, none⟩ = some (.int .i64 a1_1) ∧ w31.cell? ⟨gb325, 2, none⟩ = some (.bool a1_2) ∧ w31.cell? ⟨gb325, 3, none⟩ = some (.string a1_3) := hS_
           obtain ⟨Ao33, co33, eo33⟩ := Kd.R_slice HO343.out
           (first | subst eo33 | (injection eo33 with f1_ f2_ f3_; have f4_ := f1_.symm; have f5_ := f3_.symm; clear f1_ f2_ f3_; subst f4_; subst f5_))
           refine norm_ (a' := ?_) ?_ ?_
           rotate_left
           ·simp only [putAll, Act.put, List.setIfInBounds_toArray, List.set_cons_zero, List.set_cons_succ]
            rfl
           refine one_ (i := 7) (N := some 41) #[tt, tt, tt, tt, tt, tt, tt, tt, tt, tt, tt, ff, ff] rfl rfl (one_of HT_.out (by kernel_rfl)) (by decide) (fun K hK => ?_)
           refine Kd.R_append_rows_step k36 (w0 := w) w.heap.size (by rfl) (.tmp 38) (.tmp 40) 27 36 (.agg #[(.string ⟨#[]⟩), (.int .i64 0), (.bool false), (.string ⟨#[]⟩)]) 48 rfl Try.underlying27 info36 rfl (by decide) (by omega) v339 y338 y341 _ _ _ (fun k_ => (w.heap.size ≤ k_) ∧ some k_ ≠ (.slice Ao33 y341.length co33 : Value).ownBlock ∧ k_ ≠ gb325) (fun _ => False) rfl rfl ?aO ?aR (fun _ _ h => h) (fun _ h => h.elim) ?aF ?aB ?aS ?aL ?_
           (case aR => repeat (first | exact (Kd.R_reads' HO343.out).2.2 | (with_reducible refine Kd.C_alloc ?_ _) | (with_reducible refine Kd.C_drewN ?_ _) | (with_reducible refine Kd.C_drew ?_)))
           (case aB => exact (by repeat (first | (with_reducible first | exact HB.out | apply below_alloc | apply pw_below_drewN | apply below_drew1 | refine below_set ?_ GE325.out) | exact HB.out)))
           (case aF => exact (fun k_ hk => ⟨(Nat.le_trans (below_size (by repeat (first | (with_reducible first | exact HB.out | apply below_alloc | apply pw_below_drewN | apply below_drew1 | refine below_set ?_ GE325.out) | exact HB.out))) hk), Kd.fresh' (Kd.R_lt HO343.out) k_ hk, Kd.freshB (g := gb325) (o := .cells #[.string a1_0, .int .i64 a1_1, .bool a1_2, .string a1_3] 36 (0, 0)) (by (with_reducible repeat (first | refine blk_drewN ?_ _ | refine blk_drew ?_ | refine blk_alloc ?_ _)); exact BK325.out) k_ hk⟩))
           (case aO => exact HO340.out)
           (case aS => exact (below_size (by repeat (first | (with_reducible first | exact HB.out | apply below_alloc | apply pw_below_drewN | apply below_drew1 | refine below_set ?_ GE325.out) | exact HB.out))))
           (case aL => have := LMc15.out; omega)
           intro v345 w32 ho hb hg hat
           rw [← Ny344.out] at ho
           have n0_ := Aside0.mk (Kd.V_afterv (ok := (fun k_ => (P0_ k_ ∨ w.heap.size ≤ k_) ∧ some k_ ≠ (.slice Ao33 y341.length co33 : Value).ownBlock ∧ k_ ≠ gb325)) (by (with_reducible repeat (first | apply Kd.V_alloc | apply Kd.V_drewN | apply Kd.V_drew)); exact Kd.V_mono HO_0.out (fun _ hk => ⟨⟨hk.1, ⟨hk.2.2.1, hk.2.2.2⟩⟩, hk.2.1⟩)) hg hat)
           have n1_ := Aside0.mk (blk_grown (g := gb325) (o := .cells #[.string a1_0, .int .i64 a1_1, .bool a1_2, .string a1_3] 36 (0, 0)) (by (with_reducible repeat (first | refine blk_drewN ?_ _ | refine blk_drew ?_ | refine blk_alloc ?_ _)); exact BK325.out) hg (Kd.R_away HO340.out (fun _ hk => hk.2.2)))
           have n2_ := Aside0.mk (Kd.V_afterv (ok := (fun k_ => (P0_ k_ ∨ w.heap.size ≤ k_) ∧ some k_ ≠ (.slice Ao33 y341.length co33 : Value).ownBlock ∧ k_ ≠ gb325)) (by (with_reducible repeat (first | apply Kd.V_alloc | apply Kd.V_drewN | apply Kd.V_drew)); exact Kd.V_mono HO337.out (fun _ hk => ⟨⟨hk.1, ⟨hk.2.2.1, hk.2.2.2⟩⟩, hk.2.1⟩)) hg hat)
           have n3_ := Aside0.mk (Kd.V_afterv (ok := (fun k_ => (P0_ k_ ∨ w.heap.size ≤ k_) ∧ some k_ ≠ (.slice Ao33 y341.length co33 : Value).ownBlock ∧ k_ ≠ gb325)) (by (with_reducible repeat (first | apply Kd.V_alloc | apply Kd.V_drewN | apply Kd.V_drew)); exact Kd.V_mono HO351.out (fun _ hk => ⟨⟨hk.1, ⟨hk.2.2.1, hk.2.2.2⟩⟩, hk.2.1⟩)) hg hat)
           have n4_ := Aside0.mk (Kd.R_after (ok := (fun k_ => (w.heap.size ≤ k_) ∧ k_ ≠ gb325)) (by (with_reducible repeat (first | apply Kd.R_alloc | apply Kd.R_drewN | apply Kd.R_drew)); exact Kd.R_mono HO343.out (fun _ hk => ⟨⟨hk.1, hk.2.2⟩, hk.2.1⟩)) hg hat)
           have n5_ := Aside0.mk (hb)
           have n6_ := Aside0.mk (ho)
           clear HO_0
           clear BK325
           clear HO337
           clear HO351
           clear HO343
           clear HB
           clear HO340
           have HO_0 := n0_
           have BK325 := n1_
           have HO337 := n2_
           have HO351 := n3_
           have HO343 := n4_
           have HB := n5_
           have HO346 := n6_
           clear n0_ n1_ n2_ n3_ n4_ n5_ n6_
           clear ho hb hg hat
           refine hK.out _ _ ⟨(blk_cell BK325.out 0).trans rfl, (blk_cell BK325.out 1).trans rfl, (blk_cell BK325.out 2).trans rfl, (blk_cell BK325.out 3).trans rfl⟩ (fun hHeld => ?_)
           clear hK K
           refine norm_ (a' := ?_) ?_ ?_
           rotate_left
           ·show Act.put _ (some 41) _ = _
            simp only [Act.put, List.setIfInBounds_toArray, List.set_cons_zero, List.set_cons_succ, i64_w, i32_w]
            rfl
           refine one_ (i := 11) (N := some 45) #[tt, tt, tt, tt, tt, tt, tt, tt, tt, tt, tt, tt, ff] rfl rfl (one_of HT_.out (by kernel_rfl)) (by decide) (fun K hK => ?_)
           refine Kd.R_append_rows_step k36 (w0 := w) w.heap.size (by rfl) (.tmp 41) (.tmp 44) 27 36 (.agg #[(.string ⟨#[]⟩), (.int .i64 0), (.bool false), (.string ⟨#[]⟩)]) 48 rfl Try.underlying27 info36 rfl (by decide) (by omega) v345 y344 y347 _ _ _ (fun k_ => (w.heap.size ≤ k_) ∧ some k_ ≠ (.slice Ao33 y341.length co33 : Value).ownBlock ∧ k_ ≠ gb325) (fun _ => False) rfl rfl ?aO ?aR (fun _ _ h => h) (fun _ h => h.elim) ?aF ?aB ?aS ?aL ?_
           (case aR => repeat (first | exact (Kd.V_reads' HO351.out).2.2 | (with_reducible refine Kd.C_alloc ?_ _) | (with_reducible refine Kd.C_drewN ?_ _) | (with_reducible refine Kd.C_drew ?_)))
           (case aB => exact (by repeat (first | (with_reducible first | exact HB.out | apply below_alloc | apply pw_below_drewN | apply below_drew1 | refine below_set ?_ GE325.out) | exact HB.out)))
           (case aF => exact (fun k_ hk => ⟨(Nat.le_trans (below_size (by repeat (first | (with_reducible first | exact HB.out | apply below_alloc | apply pw_below_drewN | apply below_drew1 | refine below_set ?_ GE325.out) | exact HB.out))) hk), Kd.fresh' (Kd.R_lt HO343.out) k_ hk, Kd.freshB (g := gb325) (o := .cells #[.string a1_0, .int .i64 a1_1, .bool a1_2, .string a1_3] 36 (0, 0)) (by (with_reducible repeat (first | refine blk_drewN ?_ _ | refine blk_drew ?_ | refine blk_alloc ?_ _)); exact BK325.out) k_ hk⟩))
           (case aO => exact HO346.out)
           (case aS => exact (below_size (by repeat (first | (with_reducible first | exact HB.out | apply below_alloc | apply pw_below_drewN | apply below_drew1 | refine below_set ?_ GE325.out) | exact HB.out))))
           (case aL => have := LMc18.out; omega)
           intro v353 w34 ho hb hg hat
           rw [← Ny352.out] at ho
           have n0_ := Aside0.mk (Kd.V_afterv (ok := (fun k_ => (P0_ k_ ∨ w.heap.size ≤ k_) ∧ some k_ ≠ (.slice Ao33 y341.length co33 : Value).ownBlock ∧ k_ ≠ gb325)) HO_0.out hg hat)
           have n1_ := Aside0.mk (blk_grown (g := gb325) (o := .cells #[.string a1_0, .int .i64 a1_1, .bool a1_2, .string a1_3] 36 (0, 0)) (by (with_reducible repeat (first | refine blk_drewN ?_ _ | refine blk_drew ?_ | refine blk_alloc ?_ _)); exact BK325.out) hg (Kd.R_away HO346.out (fun _ hk => hk.2.2)))
           have n2_ := Aside0.mk (Kd.V_afterv (ok := (fun k_ => (P0_ k_ ∨ w.heap.size ≤ k_) ∧ some k_ ≠ (.slice Ao33 y341.length co33 : Value).ownBlock ∧ k_ ≠ gb325)) HO337.out hg hat)
           have n3_ := Aside0.mk (Kd.V_afterv (ok := (fun k_ => (P0_ k_ ∨ w.heap.size ≤ k_) ∧ some k_ ≠ (.slice Ao33 y341.length co33 : Value).ownBlock ∧ k_ ≠ gb325)) HO351.out hg hat)
           have n4_ := Aside0.mk (Kd.R_after (ok := (fun k_ => (w.heap.size ≤ k_) ∧ k_ ≠ gb325)) HO343.out hg hat)
           have n5_ := Aside0.mk (hb)
           have n6_ := Aside0.mk (ho)
           clear HO_0
           clear BK325
           clear HO337
           clear HO351
           clear HO343
           clear HB
           clear HO346
           have HO_0 := n0_
           have BK325 := n1_
           have HO337 := n2_
           have HO351 := n3_
           have HO343 := n4_
           have HB := n5_
           have HO354 := n6_
           clear n0_ n1_ n2_ n3_ n4_ n5_ n6_
           clear ho hb hg hat
           refine hK.out _ _ ⟨(blk_cell BK325.out 0).trans rfl, (blk_cell BK325.out 1).trans rfl, (blk_cell BK325.out 2).trans rfl, (blk_cell BK325.out 3).trans rfl⟩ (fun hHeld => ?_)
           clear hK K
           refine norm_ (a' := ?_) ?_ ?_
           rotate_left
           ·show Act.put _ (some 45) _ = _
            simp only [Act.put, List.setIfInBounds_toArray, List.set_cons_zero, List.set_cons_succ, i64_w, i32_w]
            rfl
           refine pq_ (i := 12) (N := some 4) HT_ #[tt, tt, tt, tt, tt, tt, tt, tt, tt, tt, tt, tt, tt] ?_
           refine done_ (done_of HT_.out (by kernel_rfl)) ?_
           try go_wp2
           go_ret
           exact ⟨_, by first | rfl | (simp [errW_none, errW_some] <;> rfl) | (simp [*, errW_none, errW_some] <;> rfl), Kd.V_mono (Kd.R_V (by (with_reducible repeat (first | apply Kd.R_alloc | apply Kd.R_drewN | apply Kd.R_drew)); exact Kd.R_mono HO354.out (fun _ hk => hk.1))) (fun k_ hk => by first | exact ⟨(.inr (hk.1)), hk.2⟩ | exact (.inr (hk))), by repeat (first | (with_reducible first | exact HB.out | apply below_alloc | apply pw_below_drewN | apply below_drew1 | refine below_set ?_ GE325.out) | exact HB.out)⟩
          ·rw [if_neg c18] at H
           exact absurd H (by simp)
         ·rw [if_neg c15] at H
          exact absurd H (by simp)
        ·rw [if_neg c14] at H
         exact absurd H (by simp)
       ·rw [if_neg c13] at H
        exact absurd H (by simp)
      ·replace c11 := Bool.eq_false_iff.mpr c11
       subst c11
       have H1 : (some l0) = some r := by rw [if_neg (show ¬ (false = true) by decide)] at H; exact H
       clear H
       have H := H1
       clear H1
       obtain rfl := Option.some.inj H
       try go_wp2
       have n0_ := Aside0.mk (Kd.V_drew HO_0.out)
       have n1_ := Aside0.mk (blk_drew BK325.out)
       have n2_ := Aside0.mk (below_drew1 HB.out)
       clear HO_0
       clear BK325
       clear HB
       have HO_0 := n0_
       have BK325 := n1_
       have HB := n2_
       clear n0_ n1_ n2_
       have p326 : 0 ≤ (x5_1 : Int) := of_decide_eq_true (by first | (with_reducible assumption) | assumption)
       have q326 : x5_1 < (l0.length : Int) := of_decide_eq_true (by first | (with_reducible assumption) | assumption)
       obtain ⟨ad326, e326, hx326_0, hx326_1, hx326_2, hx326_3⟩ := at_T36 (Kd.V_reads' HO_0.out).2.2 x5_1 p326 q326
       cases e326
       replace p326 := eq_true p326
       replace q326 := eq_true q326
       refine start_ (n := 12) (S := fun w' => w'.cell? ⟨gb325, 0, none⟩ = some (.string a1_0) ∧ w'.cell? ⟨gb325, 1, none⟩ = some (.int .i64 a1_1) ∧ w'.cell? ⟨gb325, 2, none⟩ = some (.bool a1_2) ∧ w'.cell? ⟨gb325, 3, none⟩ = some (.string a1_3) ∧ w'.cell? (ad326.add ((x5_1).toNat * 4)) = some (.string ((rd_T36 l0 x5_1).f0)) ∧ w'.cell? ⟨(ad326.add ((x5_1).toNat * 4)).block, (ad326.add ((x5_1).toNat * 4)).off + 1, none⟩ = some (.int .i64 ((rd_T36 l0 x5_1).f1)) ∧ w'.cell? ⟨(ad326.add ((x5_1).toNat * 4)).block, (ad326.add ((x5_1).toNat * 4)).off + 2, none⟩ = some (.bool ((rd_T36 l0 x5_1).f2)) ∧ w'.cell? ⟨(ad326.add ((x5_1).toNat * 4)).block, (ad326.add ((x5_1).toNat * 4)).off + 3, none⟩ = some (.string ((rd_T36 l0 x5_1).f3))) (ds := []) #[ff, ff, ff, ff, ff, ff, ff, ff, ff, ff, ff, ff] (by kernel_rfl) rfl rfl ⟨(blk_cell BK325.out 0).trans rfl, (blk_cell BK325.out 1).trans rfl, (blk_cell BK325.out 2).trans rfl, (blk_cell BK325.out 3).trans rfl, hx326_0, hx326_1, hx326_2, hx326_3⟩ (fun hHeld => ?_); refine with_tabW moultref12_put.tab2 moultref12_put.bits2 (fun HT_ HW_ => ?_)
       generalize wr.drew = w35 at HO_0 BK325 HB hx326_0 hx326_1 hx326_2 hx326_3 hHeld ⊢
       refine pq_ (i := 0) (N := some 6) HT_ #[tt, ff, ff, ff, ff, ff, ff, ff, ff, ff, ff, ff] ?_
       refine pq_ (i := 1) (N := some 7) HT_ #[tt, tt, ff, ff, ff, ff, ff, ff, ff, ff, ff, ff] ?_
       refine pq_ (i := 2) (N := some 8) HT_ #[tt, tt, tt, ff, ff, ff, ff, ff, ff, ff, ff, ff] ?_
       refine pq_ (i := 3) (N := some 9) HT_ #[tt, tt, tt, tt, ff, ff, ff, ff, ff, ff, ff, ff] ?_
       refine pq_ (i := 4) (N := some 10) HT_ #[tt, tt, tt, tt, tt, ff, ff, ff, ff, ff, ff, ff] ?_
       refine pq_ (i := 5) (N := some 11) HT_ #[tt, tt, tt, tt, tt, tt, ff, ff, ff, ff, ff, ff] ?_
       refine pq_ (i := 6) (N := some 12) HT_ #[tt, tt, tt, tt, tt, tt, tt, ff, ff, ff, ff, ff] ?_
       refine pq_ (i := 7) (N := some 13) HT_ #[tt, tt, tt, tt, tt, tt, tt, tt, ff, ff, ff, ff] ?_
       refine take_ (i := 8) (N := some 14) (v := ?_) (a' := ?_) #[tt, tt, tt, tt, tt, tt, tt, tt, tt, ff, ff, ff] rfl rfl (take_ofW HT_.out HW_.out (by kernel_rfl)) (fun _ _ _ h => h) (Or.inl ⟨by rfl, ?_⟩) hHeld ?_ ?_
       rotate_left
       ·rintro w' ⟨s0, s1, s2, s3, s4, s5, s6, s7⟩
        go_simp
        with_reducible rfl
       rotate_left
       ·simp only [Act.put, List.setIfInBounds_toArray, List.set_cons_zero, List.set_cons_succ, i64_w, i32_w]
        rfl
       refine take_ (i := 9) (N := some 15) (v := ?_) (a' := ?_) #[tt, tt, tt, tt, tt, tt, tt, tt, tt, tt, ff, ff] rfl rfl (take_ofW HT_.out HW_.out (by kernel_rfl)) (fun _ _ _ h => h) (Or.inl ⟨by rfl, ?_⟩) hHeld ?_ ?_
       rotate_left
       ·rintro w' ⟨s0, s1, s2, s3, s4, s5, s6, s7⟩
        go_simp
        with_reducible rfl
       rotate_left
       ·simp only [Act.put, List.setIfInBounds_toArray, List.set_cons_zero, List.set_cons_succ, i64_w, i32_w]
        rfl
       refine one_ (i := 10) (N := some 16) #[tt, tt, tt, tt, tt, tt, tt, tt, tt, tt, tt, ff] rfl rfl (one_of HT_.out (by kernel_rfl)) (by decide) (fun K hK => ?_)
       refine goes_ Try.func34 (by kernel_rfl) rfl #[.agg #[.string ((rd_T36 l0 x5_1).f0), .int .i64 ((rd_T36 l0 x5_1).f1), .bool ((rd_T36 l0 x5_1).f2), .string ((rd_T36 l0 x5_1).f3)], .agg #[.string a1_0, .int .i64 a1_1, .bool a1_2, .string a1_3]] (by rfl) rfl rfl (by (try simp only [List.map_toArray, List.map_cons, List.map_nil]); first | done | rfl | (simp only [List.length_drop, List.length_take]; rfl)) ?_
       with_reducible refine (moultref10_Less.calls k1 ((rd_T36 l0 x5_1).f0) ((rd_T36 l0 x5_1).f1) ((rd_T36 l0 x5_1).f2) ((rd_T36 l0 x5_1).f3) a1_0 a1_1 a1_2 a1_3 false _ A6.out).mono ?_
       rintro e w36 ⟨rfl, hb⟩
       have HS4_ := (hb.cell (World.block_lt_of_cell? _ _ (hHeld.2.2.2.2.1))).trans (hHeld.2.2.2.2.1)
       have HS5_ := (hb.cell (World.block_lt_of_cell? _ _ (hHeld.2.2.2.2.2.1))).trans (hHeld.2.2.2.2.2.1)
       have HS6_ := (hb.cell (World.block_lt_of_cell? _ _ (hHeld.2.2.2.2.2.2.1))).trans (hHeld.2.2.2.2.2.2.1)
       have HS7_ := (hb.cell (World.block_lt_of_cell? _ _ (hHeld.2.2.2.2.2.2.2))).trans (hHeld.2.2.2.2.2.2.2)
       refine ⟨_, rfl, ?_⟩
       have n0_ := Aside0.mk (Kd.V_below HO_0.out hb)
       have n1_ := Aside0.mk (blk_below (g := gb325) (o := .cells #[.string a1_0, .int .i64 a1_1, .bool a1_2, .string a1_3] 36 (0, 0)) (by (with_reducible repeat (first | refine blk_drewN ?_ _ | refine blk_drew ?_ | refine blk_alloc ?_ _)); exact BK325.out) hb)
       have n2_ := Aside0.mk (below_step (by repeat (first | (with_reducible first | exact HB.out | apply below_alloc | apply pw_below_drewN | apply below_drew1 | refine below_set ?_ GE325.out) | exact HB.out)) hb)
       clear HO_0
       clear BK325
       clear HB
       have HO_0 := n0_
       have BK325 := n1_
       have HB := n2_
       clear n0_ n1_ n2_
       (try clear hb)
       (try clear hb2)
       (try clear hk)
       (try clear hi)
       refine hK.out _ _ ⟨(blk_cell BK325.out 0).trans rfl, (blk_cell BK325.out 1).trans rfl, (blk_cell BK325.out 2).trans rfl, (blk_cell BK325.out 3).trans rfl, HS4_, HS5_, HS6_, HS7_⟩ (fun hHeld => ?_)
       clear hK K
       refine norm_ (a' := ?_) ?_ ?_
       rotate_left
       ·show Act.put _ (some 16) _ = _
        simp only [Act.put, List.setIfInBounds_toArray, List.set_cons_zero, List.set_cons_succ, i64_w, i32_w]
        rfl
       refine pq_ (i := 11) (N := some 17) HT_ #[tt, tt, tt, tt, tt, tt, tt, tt, tt, tt, tt, tt] ?_
       refine done_ (done_of HT_.out (by kernel_rfl)) ?_
       try go_wp2
       have n0_ := Aside0.mk (Kd.V_drew HO_0.out)
       have n1_ := Aside0.mk (blk_drew BK325.out)
       have n2_ := Aside0.mk (below_drew1 HB.out)
       clear HO_0
       clear BK325
       clear HB
       have HO_0 := n0_
       have BK325 := n1_
       have HB := n2_
       clear n0_ n1_ n2_
       have p328 : 0 ≤ (x5_1 : Int) := of_decide_eq_true (by first | (with_reducible assumption) | assumption)
       have q328 : x5_1 < (l0.length : Int) := of_decide_eq_true (by first | (with_reducible assumption) | assumption)
       obtain ⟨ad328, e328, hx328_0, hx328_1, hx328_2, hx328_3⟩ := at_T36 (Kd.V_reads' HO_0.out).2.2 x5_1 p328 q328
       obtain rfl : ad326 = ad328 := (by injection e328)
       replace p328 := eq_true p328
       replace q328 := eq_true q328
       refine start_ (n := 13) (S := fun w' => w'.cell? ⟨gb325, 0, none⟩ = some (.string a1_0) ∧ w'.cell? ⟨gb325, 1, none⟩ = some (.int .i64 a1_1) ∧ w'.cell? ⟨gb325, 2, none⟩ = some (.bool a1_2) ∧ w'.cell? ⟨gb325, 3, none⟩ = some (.string a1_3) ∧ w'.cell? (ad326.add ((x5_1).toNat * 4)) = some (.string ((rd_T36 l0 x5_1).f0)) ∧ w'.cell? ⟨(ad326.add ((x5_1).toNat * 4)).block, (ad326.add ((x5_1).toNat * 4)).off + 1, none⟩ = some (.int .i64 ((rd_T36 l0 x5_1).f1)) ∧ w'.cell? ⟨(ad326.add ((x5_1).toNat * 4)).block, (ad326.add ((x5_1).toNat * 4)).off + 2, none⟩ = some (.bool ((rd_T36 l0 x5_1).f2)) ∧ w'.cell? ⟨(ad326.add ((x5_1).toNat * 4)).block, (ad326.add ((x5_1).toNat * 4)).off + 3, none⟩ = some (.string ((rd_T36 l0 x5_1).f3))) (ds := []) #[ff, ff, ff, ff, ff, ff, ff, ff, ff, ff, ff, ff, ff] (by kernel_rfl) rfl rfl ⟨(blk_cell BK325.out 0).trans rfl, (blk_cell BK325.out 1).trans rfl, (blk_cell BK325.out 2).trans rfl, (blk_cell BK325.out 3).trans rfl, hx328_0, hx328_1, hx328_2, hx328_3⟩ (fun hHeld => ?_); refine with_tabW moultref12_put.tab4 moultref12_put.bits4 (fun HT_ HW_ => ?_)
       generalize w36.drew = w37 at HO_0 BK325 HB hx328_0 hx328_1 hx328_2 hx328_3 hHeld ⊢
       refine pq_ (i := 0) (N := some 20) HT_ #[tt, ff, ff, ff, ff, ff, ff, ff, ff, ff, ff, ff, ff] ?_
       refine pq_ (i := 1) (N := some 21) HT_ #[tt, tt, ff, ff, ff, ff, ff, ff, ff, ff, ff, ff, ff] ?_
       refine pq_ (i := 2) (N := some 22) HT_ #[tt, tt, tt, ff, ff, ff, ff, ff, ff, ff, ff, ff, ff] ?_
       refine pq_ (i := 3) (N := some 23) HT_ #[tt, tt, tt, tt, ff, ff, ff, ff, ff, ff, ff, ff, ff] ?_
       refine pq_ (i := 4) (N := some 24) HT_ #[tt, tt, tt, tt, tt, ff, ff, ff, ff, ff, ff, ff, ff] ?_
       refine pq_ (i := 6) (N := some 26) HT_ #[tt, tt, tt, tt, tt, ff, tt, ff, ff, ff, ff, ff, ff] ?_
       refine pq_ (i := 7) (N := some 27) HT_ #[tt, tt, tt, tt, tt, ff, tt, tt, ff, ff, ff, ff, ff] ?_
       refine pq_ (i := 8) (N := some 28) HT_ #[tt, tt, tt, tt, tt, ff, tt, tt, tt, ff, ff, ff, ff] ?_
       refine take_ (i := 5) (N := some 25) (v := ?_) (a' := ?_) #[tt, tt, tt, tt, tt, tt, tt, tt, tt, ff, ff, ff, ff] rfl rfl (take_ofW HT_.out HW_.out (by kernel_rfl)) (fun _ _ _ h => h) (Or.inl ⟨by rfl, ?_⟩) hHeld ?_ ?_
       rotate_left
       ·rintro w' ⟨s0, s1, s2, s3, s4, s5, s6, s7⟩
        go_simp
        with_reducible rfl
       rotate_left
       ·simp only [Act.put, List.setIfInBounds_toArray, List.set_cons_zero, List.set_cons_succ, i64_w, i32_w]
        rfl
       refine take_ (i := 9) (N := some 29) (v := ?_) (a' := ?_) #[tt, tt, tt, tt, tt, tt, tt, tt, tt, tt, ff, ff, ff] rfl rfl (take_ofW HT_.out HW_.out (by kernel_rfl)) (fun _ _ _ h => h) (Or.inl ⟨by rfl, ?_⟩) hHeld ?_ ?_
       rotate_left
       ·rintro w' ⟨s0, s1, s2, s3, s4, s5, s6, s7⟩
        go_simp
        with_reducible rfl
       rotate_left
       ·simp only [Act.put, List.setIfInBounds_toArray, List.set_cons_zero, List.set_cons_succ, i64_w, i32_w]
        rfl
       refine one_ (i := 10) (N := some 30) #[tt, tt, tt, tt, tt, tt, tt, tt, tt, tt, tt, ff, ff] rfl rfl (one_of HT_.out (by kernel_rfl)) (by decide) (fun K hK => ?_)
       refine goes_ Try.func34 (by kernel_rfl) rfl #[.agg #[.string a1_0, .int .i64 a1_1, .bool a1_2, .string a1_3], .agg #[.string ((rd_T36 l0 x5_1).f0), .int .i64 ((rd_T36 l0 x5_1).f1), .bool ((rd_T36 l0 x5_1).f2), .string ((rd_T36 l0 x5_1).f3)]] (by rfl) rfl rfl (by (try simp only [List.map_toArray, List.map_cons, List.map_nil]); first | done | rfl | (simp only [List.length_drop, List.length_take]; rfl)) ?_
       with_reducible refine (moultref10_Less.calls k1 a1_0 a1_1 a1_2 a1_3 ((rd_T36 l0 x5_1).f0) ((rd_T36 l0 x5_1).f1) ((rd_T36 l0 x5_1).f2) ((rd_T36 l0 x5_1).f3) false _ A10.out).mono ?_
       rintro e w38 ⟨rfl, hb⟩
       have HS4_ := (hb.cell (World.block_lt_of_cell? _ _ (hHeld.2.2.2.2.1))).trans (hHeld.2.2.2.2.1)
       have HS5_ := (hb.cell (World.block_lt_of_cell? _ _ (hHeld.2.2.2.2.2.1))).trans (hHeld.2.2.2.2.2.1)
       have HS6_ := (hb.cell (World.block_lt_of_cell? _ _ (hHeld.2.2.2.2.2.2.1))).trans (hHeld.2.2.2.2.2.2.1)
       have HS7_ := (hb.cell (World.block_lt_of_cell? _ _ (hHeld.2.2.2.2.2.2.2))).trans (hHeld.2.2.2.2.2.2.2)
       refine ⟨_, rfl, ?_⟩
       have n0_ := Aside0.mk (Kd.V_below HO_0.out hb)
       have n1_ := Aside0.mk (blk_below (g := gb325) (o := .cells #[.string a1_0, .int .i64 a1_1, .bool a1_2, .string a1_3] 36 (0, 0)) (by (with_reducible repeat (first | refine blk_drewN ?_ _ | refine blk_drew ?_ | refine blk_alloc ?_ _)); exact BK325.out) hb)
       have n2_ := Aside0.mk (below_step (by repeat (first | (with_reducible first | exact HB.out | apply below_alloc | apply pw_below_drewN | apply below_drew1 | refine below_set ?_ GE325.out) | exact HB.out)) hb)
       clear HO_0
       clear BK325
       clear HB
       have HO_0 := n0_
       have BK325 := n1_
       have HB := n2_
       clear n0_ n1_ n2_
       (try clear hb)
       (try clear hb2)
       (try clear hk)
       (try clear hi)
       refine hK.out _ _ ⟨(blk_cell BK325.out 0).trans rfl, (blk_cell BK325.out 1).trans rfl, (blk_cell BK325.out 2).trans rfl, (blk_cell BK325.out 3).trans rfl, HS4_, HS5_, HS6_, HS7_⟩ (fun hHeld => ?_)
       clear hK K
       refine norm_ (a' := ?_) ?_ ?_
       rotate_left
       ·show Act.put _ (some 30) _ = _
        simp only [Act.put, List.setIfInBounds_toArray, List.set_cons_zero, List.set_cons_succ, i64_w, i32_w]
        rfl
       refine pq_ (i := 11) (N := some 31) HT_ #[tt, tt, tt, tt, tt, tt, tt, tt, tt, tt, tt, tt, ff] ?_
       refine pq_ (i := 12) (N := some 32) HT_ #[tt, tt, tt, tt, tt, tt, tt, tt, tt, tt, tt, tt, tt] ?_
       refine done_ (done_of HT_.out (by kernel_rfl)) ?_
       try go_wp2
       go_ret
       exact ⟨_, by first | rfl | (simp [errW_none, errW_some] <;> rfl) | (simp [*, errW_none, errW_some] <;> rfl), by (with_reducible repeat (first | apply Kd.V_alloc | apply Kd.V_drewN | apply Kd.V_drew)); exact Kd.V_mono HO_0.out (fun _ hk => hk.1), by repeat (first | (with_reducible first | exact HB.out | apply below_alloc | apply pw_below_drewN | apply below_drew1 | refine below_set ?_ GE325.out) | exact HB.out)⟩
    ·rw [if_neg c5] at H
     exact absurd H (by simp)
   ·rw [if_neg c4] at H
    have c4b0 : decide (x5_1 < (l0.length : Int)) = false := decide_eq_false c4
    clear c4
    obtain ⟨y355, hy355⟩ : ∃ y_ : List (S36), y_ = (([] : List (S36))) := ⟨_, rfl⟩
    replace H : (if 0 ≤ x5_1 then (if x5_1 ≤ (l0.length : Int) then ((some (l0.take (x5_1 : Int).toNat : List (S36))).bind fun y358 => (if y355.length + y358.length < 2932031007402 then ((some (y355 ++ y358 : List (S36))).bind fun y363 => ((some (([(⟨a1_0, a1_1, a1_2, a1_3⟩ : S36)] : List (S36)) : List (S36))).bind fun y366 => (if y363.length + y366.length < 2932031007402 then ((some (y363 ++ y366 : List (S36))).bind fun y369 => ((some (l0.drop (x5_1 : Int).toNat : List (S36))).bind fun y372 => (if y369.length + y372.length < 2932031007402 then (some (y369 ++ y372)) else (none)))) else (none)))) else (none))) else (none)) else (none)) = some r := by first | (rw [hy355]; with_reducible exact H) | (have H2_ := (Option.bind_some _ _).symm.trans H; rw [hy355]; with_reducible exact H2_) | (have H2_ := (Option.bind_some _ _).symm.trans H; with_reducible exact H2_) | with_reducible exact H | (rw [hy355]; exact H) | exact H
    have Ny355 := Aside0.mk hy355
    clear hy355
    by_cases c39 : 0 ≤ x5_1
    ·rw [if_pos c39] at H
     have c39b0 := eq_true c39
     have c39b1 : decide (0 ≤ x5_1) = true := decide_eq_true c39
     clear c39
     by_cases c40 : x5_1 ≤ (l0.length : Int)
     ·rw [if_pos c40] at H
      have c40b0 := eq_true c40
      have c40b1 : decide (x5_1 ≤ (l0.length : Int)) = true := decide_eq_true c40
      clear c40
      obtain ⟨y358, hy358⟩ : ∃ y_ : List (S36), y_ = (l0.take (x5_1 : Int).toNat) := ⟨_, rfl⟩
      replace H : (if y355.length + y358.length < 2932031007402 then ((some (y355 ++ y358 : List (S36))).bind fun y363 => ((some (([(⟨a1_0, a1_1, a1_2, a1_3⟩ : S36)] : List (S36)) : List (S36))).bind fun y366 => (if y363.length + y366.length < 2932031007402 then ((some (y363 ++ y366 : List (S36))).bind fun y369 => ((some (l0.drop (x5_1 : Int).toNat : List (S36))).bind fun y372 => (if y369.length + y372.length < 2932031007402 then (some (y369 ++ y372)) else (none)))) else (none)))) else (none)) = some r := by first | (rw [hy358]; with_reducible exact H) | (have H2_ := (Option.bind_some _ _).symm.trans H; rw [hy358]; with_reducible exact H2_) | (have H2_ := (Option.bind_some _ _).symm.trans H; with_reducible exact H2_) | with_reducible exact H | (rw [hy358]; exact H) | exact H
      have Ny358 := Aside0.mk hy358
      clear hy358
      by_cases c41 : y355.length + y358.length < 2932031007402
      ·rw [if_pos c41] at H
       have LMc41 := Aside0.mk c41
       clear c41
       obtain ⟨y363, hy363⟩ : ∃ y_ : List (S36), y_ = (y355 ++ y358) := ⟨_, rfl⟩
       replace H : ((some (([(⟨a1_0, a1_1, a1_2, a1_3⟩ : S36)] : List (S36)) : List (S36))).bind fun y366 => (if y363.length + y366.length < 2932031007402 then ((some (y363 ++ y366 : List (S36))).bind fun y369 => ((some (l0.drop (x5_1 : Int).toNat : List (S36))).bind fun y372 => (if y369.length + y372.length < 2932031007402 then (some (y369 ++ y372)) else (none)))) else (none))) = some r := by first | (rw [hy363]; with_reducible exact H) | (have H2_ := (Option.bind_some _ _).symm.trans H; rw [hy363]; with_reducible exact H2_) | (have H2_ := (Option.bind_some _ _).symm.trans H; with_reducible exact H2_) | with_reducible exact H | (rw [hy363]; exact H) | exact H
       have Ny363 := Aside0.mk hy363
       clear hy363
       obtain ⟨y366, hy366⟩ : ∃ y_ : List (S36), y_ = (([(⟨a1_0, a1_1, a1_2, a1_3⟩ : S36)] : List (S36))) := ⟨_, rfl⟩
       replace H : (if y363.length + y366.length < 2932031007402 then ((some (y363 ++ y366 : List (S36))).bind fun y369 => ((some (l0.drop (x5_1 : Int).toNat : List (S36))).bind fun y372 => (if y369.length + y372.length < 2932031007402 then (some (y369 ++ y372)) else (none)))) else (none)) = some r := by first | (rw [hy366]; with_reducible exact H) | (have H2_ := (Option.bind_some _ _).symm.trans H; rw [hy366]; with_reducible exact H2_) | (have H2_ := (Option.bind_some _ _).symm.trans H; with_reducible exact H2_) | with_reducible exact H | (rw [hy366]; exact H) | exact H
       have Ny366 := Aside0.mk hy366
       clear hy366
       by_cases c42 : y363.length + y366.length < 2932031007402
       ·rw [if_pos c42] at H
        have LMc42 := Aside0.mk c42
        clear c42
        obtain ⟨y369, hy369⟩ : ∃ y_ : List (S36), y_ = (y363 ++ y366) := ⟨_, rfl⟩
        replace H : ((some (l0.drop (x5_1 : Int).toNat : List (S36))).bind fun y372 => (if y369.length + y372.length < 2932031007402 then (some (y369 ++ y372)) else (none))) = some r := by first | (rw [hy369]; with_reducible exact H) | (have H2_ := (Option.bind_some _ _).symm.trans H; rw [hy369]; with_reducible exact H2_) | (have H2_ := (Option.bind_some _ _).symm.trans H; with_reducible exact H2_) | with_reducible exact H | (rw [hy369]; exact H) | exact H
        have Ny369 := Aside0.mk hy369
        clear hy369
        have c43b0 := eq_true (of_decide_eq_true (by first | (with_reducible assumption) | assumption) : 0 ≤ x5_1)
        have c44b0 := eq_true (of_decide_eq_true (by first | (with_reducible assumption) | assumption) : x5_1 ≤ (l0.length : Int))
        obtain ⟨y372, hy372⟩ : ∃ y_ : List (S36), y_ = (l0.drop (x5_1 : Int).toNat) := ⟨_, rfl⟩
        replace H : (if y369.length + y372.length < 2932031007402 then (some (y369 ++ y372)) else (none)) = some r := by first | (rw [hy372]; with_reducible exact H) | (have H2_ := (Option.bind_some _ _).symm.trans H; rw [hy372]; with_reducible exact H2_) | (have H2_ := (Option.bind_some _ _).symm.trans H; with_reducible exact H2_) | with_reducible exact H | (rw [hy372]; exact H) | exact H
        have Ny372 := Aside0.mk hy372
        clear hy372
        by_cases c45 : y369.length + y372.length < 2932031007402
        ·rw [if_pos c45] at H
         have LMc45 := Aside0.mk c45
         clear c45
         obtain ⟨y377, hy377⟩ : ∃ y_ : List (S36), y_ = (y369 ++ y372) := ⟨_, rfl⟩
         replace H : (some y377) = some r := by first | (rw [hy377]; with_reducible exact H) | (have H2_ := (Option.bind_some _ _).symm.trans H; rw [hy377]; with_reducible exact H2_) | (have H2_ := (Option.bind_some _ _).symm.trans H; with_reducible exact H2_) | with_reducible exact H | (rw [hy377]; exact H) | exact H
         have Ny377 := Aside0.mk hy377
         clear hy377
         obtain rfl := Option.some.inj H
         try go_wp2
         have n0_ := Aside0.mk (Kd.V_drew HO_0.out)
         have n1_ := Aside0.mk (blk_drew BK325.out)
         have n2_ := Aside0.mk (below_drew1 HB.out)
         clear HO_0
         clear BK325
         clear HB
         have HO_0 := n0_
         have BK325 := n1_
         have HB := n2_
         clear n0_ n1_ n2_
         refine start_ (n := 12) (S := fun w' => True) (ds := []) #[ff, ff, ff, ff, ff, ff, ff, ff, ff, ff, ff, ff] (by kernel_rfl) rfl rfl trivial (fun hHeld => ?_); refine with_tabW moultref12_put.tab2 moultref12_put.bits2 (fun HT_ HW_ => ?_)
         generalize wr.drew = w46 at HO_0 BK325 HB hHeld ⊢
         refine pq_ (i := 0) (N := some 6) HT_ #[tt, ff, ff, ff, ff, ff, ff, ff, ff, ff, ff, ff] ?_
         refine pq_ (i := 1) (N := some 7) HT_ #[tt, tt, ff, ff, ff, ff, ff, ff, ff, ff, ff, ff] ?_
         refine pq_ (i := 2) (N := some 8) HT_ #[tt, tt, tt, ff, ff, ff, ff, ff, ff, ff, ff, ff] ?_
         refine pq_ (i := 3) (N := some 9) HT_ #[tt, tt, tt, tt, ff, ff, ff, ff, ff, ff, ff, ff] ?_
         refine pq_ (i := 4) (N := some 10) HT_ #[tt, tt, tt, tt, tt, ff, ff, ff, ff, ff, ff, ff] ?_
         refine pu_ (i := 5) (N := some 11) HT_ #[tt, tt, tt, tt, tt, tt, ff, ff, ff, ff, ff, ff] ?_
         refine pu_ (i := 6) (N := some 12) HT_ #[tt, tt, tt, tt, tt, tt, tt, ff, ff, ff, ff, ff] ?_
         refine pu_ (i := 7) (N := some 13) HT_ #[tt, tt, tt, tt, tt, tt, tt, tt, ff, ff, ff, ff] ?_
         refine pu_ (i := 8) (N := some 14) HT_ #[tt, tt, tt, tt, tt, tt, tt, tt, tt, ff, ff, ff] ?_
         refine pu_ (i := 9) (N := some 15) HT_ #[tt, tt, tt, tt, tt, tt, tt, tt, tt, tt, ff, ff] ?_
         refine pu_ (i := 10) (N := some 16) HT_ #[tt, tt, tt, tt, tt, tt, tt, tt, tt, tt, tt, ff] ?_
         refine pq_ (i := 11) (N := some 17) HT_ #[tt, tt, tt, tt, tt, tt, tt, tt, tt, tt, tt, tt] ?_
         refine done_ (done_of HT_.out (by kernel_rfl)) ?_
         try go_wp2
         have n0_ := Aside0.mk (Kd.V_drew HO_0.out)
         have n1_ := Aside0.mk (blk_drew BK325.out)
         have n2_ := Aside0.mk (below_drew1 HB.out)
         clear HO_0
         clear BK325
         clear HB
         have HO_0 := n0_
         have BK325 := n1_
         have HB := n2_
         clear n0_ n1_ n2_
         refine start_ (n := 13) (S := fun w' => True) (ds := []) #[ff, ff, ff, ff, ff, ff, ff, ff, ff, ff, ff, ff, ff] (by kernel_rfl) rfl rfl trivial (fun hHeld => ?_); refine with_tabW moultref12_put.tab4 moultref12_put.bits4 (fun HT_ HW_ => ?_)
         generalize w46.drew = w47 at HO_0 BK325 HB hHeld ⊢
         refine pq_ (i := 0) (N := some 20) HT_ #[tt, ff, ff, ff, ff, ff, ff, ff, ff, ff, ff, ff, ff] ?_
         refine pq_ (i := 1) (N := some 21) HT_ #[tt, tt, ff, ff, ff, ff, ff, ff, ff, ff, ff, ff, ff] ?_
         refine pq_ (i := 2) (N := some 22) HT_ #[tt, tt, tt, ff, ff, ff, ff, ff, ff, ff, ff, ff, ff] ?_
         refine pq_ (i := 3) (N := some 23) HT_ #[tt, tt, tt, tt, ff, ff, ff, ff, ff, ff, ff, ff, ff] ?_
         refine pq_ (i := 4) (N := some 24) HT_ #[tt, tt, tt, tt, tt, ff, ff, ff, ff, ff, ff, ff, ff] ?_
         refine pu_ (i := 5) (N := some 25) HT_ #[tt, tt, tt, tt, tt, tt, ff, ff, ff, ff, ff, ff, ff] ?_
         refine pu_ (i := 6) (N := some 26) HT_ #[tt, tt, tt, tt, tt, tt, tt, ff, ff, ff, ff, ff, ff] ?_
         refine pu_ (i := 7) (N := some 27) HT_ #[tt, tt, tt, tt, tt, tt, tt, tt, ff, ff, ff, ff, ff] ?_
         refine pu_ (i := 8) (N := some 28) HT_ #[tt, tt, tt, tt, tt, tt, tt, tt, tt, ff, ff, ff, ff] ?_
         refine pu_ (i := 9) (N := some 29) HT_ #[tt, tt, tt, tt, tt, tt, tt, tt, tt, tt, ff, ff, ff] ?_
         refine pu_ (i := 10) (N := some 30) HT_ #[tt, tt, tt, tt, tt, tt, tt, tt, tt, tt, tt, ff, ff] ?_
         refine pu_ (i := 11) (N := some 31) HT_ #[tt, tt, tt, tt, tt, tt, tt, tt, tt, tt, tt, tt, ff] ?_
         refine pq_ (i := 12) (N := some 32) HT_ #[tt, tt, tt, tt, tt, tt, tt, tt, tt, tt, tt, tt, tt] ?_
         refine done_ (done_of HT_.out (by kernel_rfl)) ?_
         try go_wp2
         have n0_ := Aside0.mk (Kd.V_drew HO_0.out)
         have n1_ := Aside0.mk (blk_drew BK325.out)
         have n2_ := Aside0.mk (below_drew1 HB.out)
         clear HO_0
         clear BK325
         clear HB
         have HO_0 := n0_
         have BK325 := n1_
         have HB := n2_
         clear n0_ n1_ n2_
         have q49 : (x5_1 : Int) ≤ ((l0.length : Int) : Int) := of_decide_eq_true (by first | (with_reducible assumption) | assumption)
         obtain ⟨i049, hi049, _, hsz49, _⟩ := info_parts info36
         have hroom49 : l0.length ≤ c0 := (Kd.V_reads' HO_0.out).2.1
         have hC49 : Kd.F k36 _ _ A0 l0.length l0 := (Kd.V_at (base := w.heap.size) HO_0.out).2.2
         have hcut49 := cut_to (P := Try.prog) 27 36 .i64 Try.underlying27 hi049 A0 l0.length c0 x5_1 (of_decide_eq_true (by first | (with_reducible assumption) | assumption)) q49 hroom49
         have hr49 := Kd.F_take (m := (x5_1 : Int).toNat) hC49 (by omega)
         have hy49 : y358.length = (x5_1 : Int).toNat := (by rw [Ny358.out, List.length_take]; omega)
         rw [← Ny358.out] at hr49
         rw [← hy49] at hcut49
         have HO362 := Aside0.mk (show Kd.V k36 36 _ w.heap.size _ (.slice A0 y358.length c0) y358 from Kd.V_mk (by omega) hr49)
         have HC362 := Aside0.mk (show y358.length ≤ c0 from by omega)
         clear hr49 hC49 hroom49 hi049 hsz49
         have KY49 := Aside0.mk hy49
         clear hy49
         replace q49 := eq_true q49
         have q50 : (x5_1 : Int) ≤ ((l0.length : Int) : Int) := of_decide_eq_true (by first | (with_reducible assumption) | assumption)
         obtain ⟨i050, hi050, _, hsz50, _⟩ := info_parts info36
         have hroom50 : l0.length ≤ c0 := (Kd.V_reads' HO_0.out).2.1
         have hC50 : Kd.F k36 _ _ A0 l0.length l0 := (Kd.V_at (base := w.heap.size) HO_0.out).2.2
         have q050 : (0 : Int) ≤ (x5_1 : Int) := of_decide_eq_true (by first | (with_reducible assumption) | assumption)
         have hcut50 := cut_from (P := Try.prog) 27 36 .i64 Try.underlying27 hi050 4 hsz50 A0 l0.length c0 x5_1 q050 q50
         have hr50 := Kd.F_cut (m := (x5_1 : Int).toNat) (c := c0) hC50 (by omega) hroom50
         obtain ⟨A50, hA50⟩ : ∃ A1, A1 = (if c0 = (x5_1 : Int).toNat then A0 else (A0 : Option Addr).map (·.add ((x5_1 : Int).toNat * 4))) := ⟨_, rfl⟩
         obtain ⟨c50, hc50⟩ : ∃ c1, c1 = c0 - (x5_1 : Int).toNat := ⟨_, rfl⟩
         have hy50 : y372.length = l0.length - (x5_1 : Int).toNat := (by rw [Ny372.out, List.length_drop] <;> omega)
         rw [show (l0).drop (x5_1 : Int).toNat = y372 from Ny372.out.symm] at hr50
         replace hr50 : Kd.F k36 _ _ A50 y372.length y372 := (by rw [hA50]; exact hr50)
         rw [← hy50, ← hA50, ← hc50] at hcut50
         have HO376 := Aside0.mk (show Kd.V k36 36 _ w.heap.size _ (.slice A50 y372.length c50) y372 from Kd.V_mk (by rw [hy50, hc50]; exact Nat.sub_le_sub_right hroom50 _) hr50)
         have HC376 := Aside0.mk (show y372.length ≤ c50 from by rw [hy50, hc50]; exact Nat.sub_le_sub_right hroom50 _)
         clear hr50 hC50 hroom50 hi050 hsz50 hc50
         have KY50 := Aside0.mk hy50
         have KA50 := Aside0.mk hA50
         clear hy50 hA50
         replace q50 := eq_true q50
         refine start_ (n := 13) (S := fun w' => w'.cell? ⟨gb325, 0, none⟩ = some (.string a1_0) ∧ w'.cell? ⟨gb325, 1, none⟩ = some (.int .i64 a1_1) ∧ w'.cell? ⟨gb325, 2, none⟩ = some (.bool a1_2) ∧ w'.cell? ⟨gb325, 3, none⟩ = some (.string a1_3)) (ds := []) #[ff, ff, ff, ff, ff, ff, ff, ff, ff, ff, ff, ff, ff] (by kernel_rfl) rfl rfl ⟨(blk_cell BK325.out 0).trans rfl, (blk_cell BK325.out 1).trans rfl, (blk_cell BK325.out 2).trans rfl, (blk_cell BK325.out 3).trans rfl⟩ (fun hHeld => ?_); refine with_tabW moultref12_put.tab6 moultref12_put.bits6 (fun HT_ HW_ => ?_)
         generalize w47.drew = w48 at HO_0 BK325 HB HO362 HO376 hHeld ⊢
         refine pq_ (i := 1) (N := some 35) HT_ #[ff, tt, ff, ff, ff, ff, ff, ff, ff, ff, ff, ff, ff] ?_
         refine pq_ (i := 2) (N := some 36) HT_ #[ff, tt, tt, ff, ff, ff, ff, ff, ff, ff, ff, ff, ff] ?_
         refine pq_ (i := 3) (N := some 37) HT_ #[ff, tt, tt, tt, ff, ff, ff, ff, ff, ff, ff, ff, ff] ?_
         refine pq_ (i := 8) (N := some 42) HT_ #[ff, tt, tt, tt, ff, ff, ff, ff, tt, ff, ff, ff, ff] ?_
         refine pq_ (i := 9) (N := some 43) HT_ #[ff, tt, tt, tt, ff, ff, ff, ff, tt, tt, ff, ff, ff] ?_
         refine pq_ (i := 10) (N := some 44) HT_ #[ff, tt, tt, tt, ff, ff, ff, ff, tt, tt, tt, ff, ff] ?_
         refine take_ (i := 5) (N := some 39) (v := ?_) (a' := ?_) #[ff, tt, tt, tt, ff, tt, ff, ff, tt, tt, tt, ff, ff] rfl rfl (take_ofW HT_.out HW_.out (by kernel_rfl)) (fun _ _ _ h => h) (Or.inl ⟨by rfl, ?_⟩) hHeld ?_ ?_
         rotate_left
         ·rintro w' ⟨s0, s1, s2, s3⟩
          go_simp
          with_reducible rfl
         rotate_left
         ·simp only [Act.put, List.setIfInBounds_toArray, List.set_cons_zero, List.set_cons_succ, i64_w, i32_w]
          rfl
         refine join_ (σ := Value × Value × Value) 3 #[tt, tt, tt, tt, tt, tt, tt, ff, tt, tt, tt, ff, ff] (fun s_ => [(34, s_.1), (38, s_.2.1), (40, s_.2.2)]) (fun s_ w' => (w'.cell? ⟨gb325, 0, none⟩ = some (.string a1_0) ∧ w'.cell? ⟨gb325, 1, none⟩ = some (.int .i64 a1_1) ∧ w'.cell? ⟨gb325, 2, none⟩ = some (.bool a1_2) ∧ w'.cell? ⟨gb325, 3, none⟩ = some (.string a1_3)) ∧ (Kd.V k36 36 w' w.heap.size (fun k_ => (P0_ k_ ∨ w.heap.size ≤ k_) ∧ some k_ ≠ (s_.2.1 : Value).ownBlock ∧ some k_ ≠ (s_.2.2 : Value).ownBlock ∧ k_ ≠ gb325) (.slice A0 y358.length c0) y358) ∧ (Kd.R k36 36 w' w.heap.size (fun k_ => (w.heap.size ≤ k_) ∧ some k_ ≠ (s_.2.2 : Value).ownBlock ∧ k_ ≠ gb325) s_.2.1 y363) ∧ (Kd.R k36 36 w' w.heap.size (fun k_ => (w.heap.size ≤ k_) ∧ some k_ ≠ (s_.2.1 : Value).ownBlock ∧ k_ ≠ gb325) s_.2.2 y366) ∧ (Kd.V k36 36 w' w.heap.size (fun k_ => (P0_ k_ ∨ w.heap.size ≤ k_) ∧ some k_ ≠ (s_.2.1 : Value).ownBlock ∧ some k_ ≠ (s_.2.2 : Value).ownBlock ∧ k_ ≠ gb325) (.slice A50 y372.length c50) y372) ∧ (Kd.V k36 36 w' w.heap.size (fun k_ => (P0_ k_ ∨ w.heap.size ≤ k_) ∧ some k_ ≠ (s_.2.1 : Value).ownBlock ∧ some k_ ≠ (s_.2.2 : Value).ownBlock ∧ k_ ≠ gb325) (.slice A0 l0.length c0) l0) ∧ (w'.heap[gb325]? = some (.cells #[.string a1_0, .int .i64 a1_1, .bool a1_2, .string a1_3] 36 (0, 0))) ∧ (Below w.heap.size w w')) ?_ ?_
         rotate_left
         ·intro hCont
          refine two_ (i := 0) (j := 6) (Ni := some 34) (Nj := some 40) #[tt, tt, tt, tt, ff, tt, ff, ff, tt, tt, tt, ff, ff] #[ff, tt, tt, tt, ff, tt, tt, ff, tt, tt, tt, ff, ff] rfl rfl rfl rfl (two_of HT_.out (by kernel_rfl)) (by decide) (by decide) (fun K hK => ?_) (fun K hK => ?_)
          ·skip
           refine Kd.R_lit_step k36 _ 36 ?hg (N := 34) ?hd (xs := ([] : List (S36))) (inner := []) (ok := fun _ => True) (okp := fun _ => True) ?hr ?hp (fun _ hk => hk) trivial (Below.refl _ _) (Nat.le_refl _) (by simp) ?_; (case hd => rfl); (case hg => rfl); (case hr => first | (go_simp; done) | (go_simp; rfl)); (case hp => exact (Reps.none _ _))
           intro v356 w51 ho52 hb hg_ hnew_
           clear hg_ hnew_
           (first | rw [← Ny355.out] at ho52 | (simp only [Int.reduceToNat] at ho52; rw [← Ny355.out] at ho52))
           have n0_ := Aside0.mk (Kd.V_elder' HO_0.out (Kd.R_base ho52) hb)
           have n1_ := Aside0.mk (Kd.V_elder' HO362.out (Kd.R_base ho52) hb)
           have n2_ := Aside0.mk (Kd.V_elder' HO376.out (Kd.R_base ho52) hb)
           have n3_ := Aside0.mk (Kd.R_lower (Kd.R_newB (Kd.R_newM (M := fun k_ => (w.heap.size ≤ k_)) ho52 (below_size (by repeat (first | (with_reducible first | exact HB.out | apply below_alloc | apply pw_below_drewN | apply below_drew1 | refine below_set ?_ GE325.out) | exact HB.out))) (fun k_ h_ => h_)) (g := gb325) (o := .cells #[.string a1_0, .int .i64 a1_1, .bool a1_2, .string a1_3] 36 (0, 0)) (by (with_reducible repeat (first | refine blk_drewN ?_ _ | refine blk_drew ?_ | refine blk_alloc ?_ _)); exact BK325.out)) (below_size (by repeat (first | (with_reducible first | exact HB.out | apply below_alloc | apply pw_below_drewN | apply below_drew1 | refine below_set ?_ GE325.out) | exact HB.out))))
           have n4_ := Aside0.mk (blk_below (g := gb325) (o := .cells #[.string a1_0, .int .i64 a1_1, .bool a1_2, .string a1_3] 36 (0, 0)) (by (with_reducible repeat (first | refine blk_drewN ?_ _ | refine blk_drew ?_ | refine blk_alloc ?_ _)); exact BK325.out) hb)
           have n5_ := Aside0.mk (below_step (by repeat (first | (with_reducible first | exact HB.out | apply below_alloc | apply pw_below_drewN | apply below_drew1 | refine below_set ?_ GE325.out) | exact HB.out)) hb)
           clear HO_0
           clear HO362
           clear HO376
           clear BK325
           clear HB
           have HO_0 := n0_
           have HO362 := n1_
           have HO376 := n2_
           have HO357 := n3_
           have BK325 := n4_
           have HB := n5_
           clear n0_ n1_ n2_ n3_ n4_ n5_
           clear hb ho52
           refine hK.out _ _ ⟨(blk_cell BK325.out 0).trans rfl, (blk_cell BK325.out 1).trans rfl, (blk_cell BK325.out 2).trans rfl, (blk_cell BK325.out 3).trans rfl⟩ (fun hHeld => ?_)
           clear hK K
           refine norm_ (a' := ?_) ?_ ?_
           rotate_left
           ·show Act.put _ (some 34) _ = _
            simp only [Act.put, List.setIfInBounds_toArray, List.set_cons_zero, List.set_cons_succ, i64_w, i32_w]
            rfl
           refine two_ (i := 4) (j := 6) (Ni := some 38) (Nj := some 40) #[tt, tt, tt, tt, tt, tt, ff, ff, tt, tt, tt, ff, ff] #[tt, tt, tt, tt, ff, tt, tt, ff, tt, tt, tt, ff, ff] rfl rfl rfl rfl (two_of HT_.out (by kernel_rfl)) (by decide) (by decide) (fun K hK => ?_) (fun K hK => ?_)
           ·skip
            refine Kd.R_append_rows_step k36 (w0 := w) w.heap.size (by rfl) (.tmp 34) (.tmp 37) 27 36 (.agg #[(.string ⟨#[]⟩), (.int .i64 0), (.bool false), (.string ⟨#[]⟩)]) 48 rfl Try.underlying27 info36 rfl (by decide) (by omega) v356 y355 y358 _ _ _ (fun k_ => (w.heap.size ≤ k_) ∧ k_ ≠ gb325) (fun _ => False) rfl rfl ?aO ?aR (fun _ _ h => h) (fun _ h => h.elim) ?aF ?aB ?aS ?aL ?_
            (case aR => repeat (first | exact (Kd.V_reads' HO362.out).2.2 | (with_reducible refine Kd.C_alloc ?_ _) | (with_reducible refine Kd.C_drewN ?_ _) | (with_reducible refine Kd.C_drew ?_)))
            (case aB => exact (by repeat (first | (with_reducible first | exact HB.out | apply below_alloc | apply pw_below_drewN | apply below_drew1 | refine below_set ?_ GE325.out) | exact HB.out)))
            (case aF => exact (fun k_ hk => ⟨(Nat.le_trans (below_size (by repeat (first | (with_reducible first | exact HB.out | apply below_alloc | apply pw_below_drewN | apply below_drew1 | refine below_set ?_ GE325.out) | exact HB.out))) hk), Kd.freshB (g := gb325) (o := .cells #[.string a1_0, .int .i64 a1_1, .bool a1_2, .string a1_3] 36 (0, 0)) (by (with_reducible repeat (first | refine blk_drewN ?_ _ | refine blk_drew ?_ | refine blk_alloc ?_ _)); exact BK325.out) k_ hk⟩))
            (case aO => exact (by (with_reducible repeat (first | apply Kd.R_alloc | apply Kd.R_drewN | apply Kd.R_drew)); exact Kd.R_mono HO357.out (fun _ hk => ⟨hk.1.1, hk.2⟩)))
            (case aS => exact (below_size (by repeat (first | (with_reducible first | exact HB.out | apply below_alloc | apply pw_below_drewN | apply below_drew1 | refine below_set ?_ GE325.out) | exact HB.out))))
            (case aL => have := LMc41.out; omega)
            intro v364 w53 ho hb hg hat
            rw [← Ny363.out] at ho
            have n0_ := Aside0.mk (Kd.V_afterv (ok := (fun k_ => (P0_ k_ ∨ w.heap.size ≤ k_) ∧ k_ ≠ gb325)) HO_0.out hg hat)
            have n1_ := Aside0.mk (blk_grown (g := gb325) (o := .cells #[.string a1_0, .int .i64 a1_1, .bool a1_2, .string a1_3] 36 (0, 0)) (by (with_reducible repeat (first | refine blk_drewN ?_ _ | refine blk_drew ?_ | refine blk_alloc ?_ _)); exact BK325.out) hg (Kd.R_away HO357.out (fun _ hk => hk.2)))
            have n2_ := Aside0.mk (Kd.V_afterv (ok := (fun k_ => (P0_ k_ ∨ w.heap.size ≤ k_) ∧ k_ ≠ gb325)) HO362.out hg hat)
            have n3_ := Aside0.mk (Kd.V_afterv (ok := (fun k_ => (P0_ k_ ∨ w.heap.size ≤ k_) ∧ k_ ≠ gb325)) HO376.out hg hat)
            have n4_ := Aside0.mk (hb)
            have n5_ := Aside0.mk (ho)
            clear HO_0
            clear BK325
            clear HO362
            clear HO376
            clear HB
            clear HO357
            have HO_0 := n0_
            have BK325 := n1_
            have HO362 := n2_
            have HO376 := n3_
            have HB := n4_
            have HO365 := n5_
            clear n0_ n1_ n2_ n3_ n4_ n5_
            clear ho hb hg hat
            refine hK.out _ _ ⟨(blk_cell BK325.out 0).trans rfl, (blk_cell BK325.out 1).trans rfl, (blk_cell BK325.out 2).trans rfl, (blk_cell BK325.out 3).trans rfl⟩ (fun hHeld => ?_)
            clear hK K
            refine norm_ (a' := ?_) ?_ ?_
            rotate_left
            ·show Act.put _ (some 38) _ = _
             simp only [Act.put, List.setIfInBounds_toArray, List.set_cons_zero, List.set_cons_succ, i64_w, i32_w]
             rfl
            refine one_ (i := 6) (N := some 40) #[tt, tt, tt, tt, tt, tt, tt, ff, tt, tt, tt, ff, ff] rfl rfl (one_of HT_.out (by kernel_rfl)) (by decide) (fun K hK => ?_)
            refine Kd.R_lit_step k36 _ 36 ?hg (N := 40) ?hd (xs := ([(⟨a1_0, a1_1, a1_2, a1_3⟩ : S36)] : List (S36))) (inner := [.string a1_0, .int .i64 a1_1, .bool a1_2, .string a1_3]) (ok := fun _ => True) (okp := fun _ => True) ?hr ?hp (fun _ hk => hk) trivial (Below.refl _ _) (Nat.le_refl _) (by simp) ?_; (case hd => rfl); (case hg => rfl); (case hr => first | (go_simp; done) | (go_simp; rfl)); (case hp => exact (Reps.c4 (show Kd.M k36 _ _ _ (⟨a1_0, a1_1, a1_2, a1_3⟩ : S36) [.string a1_0, .int .i64 a1_1, .bool a1_2, .string a1_3] from (k36_mkM _ _ _ (⟨a1_0, a1_1, a1_2, a1_3⟩ : S36) )) (Reps.none _ _)))
            intro v367 w54 ho55 hb hg_ hnew_
            clear hg_ hnew_
            (first | rw [← Ny366.out] at ho55 | (simp only [Int.reduceToNat] at ho55; rw [← Ny366.out] at ho55))
            have n0_ := Aside0.mk (Kd.V_elder' HO_0.out (Kd.R_base ho55) hb)
            have n1_ := Aside0.mk (Kd.V_elder' HO362.out (Kd.R_base ho55) hb)
            have n2_ := Aside0.mk (Kd.V_elder' HO376.out (Kd.R_base ho55) hb)
            have n3_ := Aside0.mk (Kd.R_elder' HO365.out (Kd.R_base ho55) hb)
            have n4_ := Aside0.mk (Kd.R_lower (Kd.R_newB (Kd.R_new' (Kd.R_newM (M := fun k_ => (w.heap.size ≤ k_)) ho55 (below_size (by repeat (first | (with_reducible first | exact HB.out | apply below_alloc | apply pw_below_drewN | apply below_drew1 | refine below_set ?_ GE325.out) | exact HB.out))) (fun k_ h_ => h_)) (Kd.R_lt HO365.out)) (g := gb325) (o := .cells #[.string a1_0, .int .i64 a1_1, .bool a1_2, .string a1_3] 36 (0, 0)) (by (with_reducible repeat (first | refine blk_drewN ?_ _ | refine blk_drew ?_ | refine blk_alloc ?_ _)); exact BK325.out)) (below_size (by repeat (first | (with_reducible first | exact HB.out | apply below_alloc | apply pw_below_drewN | apply below_drew1 | refine below_set ?_ GE325.out) | exact HB.out))))
            have n5_ := Aside0.mk (blk_below (g := gb325) (o := .cells #[.string a1_0, .int .i64 a1_1, .bool a1_2, .string a1_3] 36 (0, 0)) (by (with_reducible repeat (first | refine blk_drewN ?_ _ | refine blk_drew ?_ | refine blk_alloc ?_ _)); exact BK325.out) hb)
            have n6_ := Aside0.mk (below_step (by repeat (first | (with_reducible first | exact HB.out | apply below_alloc | apply pw_below_drewN | apply below_drew1 | refine below_set ?_ GE325.out) | exact HB.out)) hb)
            clear HO_0
            clear HO362
            clear HO376
            clear HO365
            clear BK325
            clear HB
            have HO_0 := n0_
            have HO362 := n1_
            have HO376 := n2_
            have HO365 := n3_
            have HO368 := n4_
            have BK325 := n5_
            have HB := n6_
            clear n0_ n1_ n2_ n3_ n4_ n5_ n6_
            clear hb ho55
            refine hK.out _ _ ⟨(blk_cell BK325.out 0).trans rfl, (blk_cell BK325.out 1).trans rfl, (blk_cell BK325.out 2).trans rfl, (blk_cell BK325.out 3).trans rfl⟩ (fun hHeld => ?_)
            clear hK K
            refine norm_ (a' := ?_) ?_ ?_
            rotate_left
            ·show Act.put _ (some 40) _ = _
             simp only [Act.put, List.setIfInBounds_toArray, List.set_cons_zero, List.set_cons_succ, i64_w, i32_w]
             rfl
            exact norm_ (by simp only [putAll, Act.put, List.setIfInBounds_toArray, List.set_cons_zero, List.set_cons_succ]) (hCont (v356, v364, v367) _ ⟨hHeld, (by (with_reducible repeat (first | apply Kd.V_alloc | apply Kd.V_drewN | apply Kd.V_drew)); exact Kd.V_mono HO362.out (fun _ hk => ⟨hk.1.1.1, ⟨hk.1.2, ⟨hk.2, hk.1.1.2⟩⟩⟩)), (by (with_reducible repeat (first | apply Kd.R_alloc | apply Kd.R_drewN | apply Kd.R_drew)); exact Kd.R_mono HO365.out (fun _ hk => ⟨hk.1.1, ⟨hk.2, hk.1.2⟩⟩)), (by (with_reducible repeat (first | apply Kd.R_alloc | apply Kd.R_drewN | apply Kd.R_drew)); exact Kd.R_mono HO368.out (fun _ hk => ⟨hk.1.1.1, ⟨hk.1.2, hk.2⟩⟩)), (by (with_reducible repeat (first | apply Kd.V_alloc | apply Kd.V_drewN | apply Kd.V_drew)); exact Kd.V_mono HO376.out (fun _ hk => ⟨hk.1.1.1, ⟨hk.1.2, ⟨hk.2, hk.1.1.2⟩⟩⟩)), (by (with_reducible repeat (first | apply Kd.V_alloc | apply Kd.V_drewN | apply Kd.V_drew)); exact Kd.V_mono HO_0.out (fun _ hk => ⟨hk.1.1.1, ⟨hk.1.2, ⟨hk.2, hk.1.1.2⟩⟩⟩)), (by (with_reducible repeat (first | refine blk_drewN ?_ _ | refine blk_drew ?_ | refine blk_alloc ?_ _)); exact BK325.out), (by repeat (first | (with_reducible first | exact HB.out | apply below_alloc | apply pw_below_drewN | apply below_drew1 | refine below_set ?_ GE325.out) | exact HB.out))⟩)
           ·skip
            refine Kd.R_lit_step k36 _ 36 ?hg (N := 40) ?hd (xs := ([(⟨a1_0, a1_1, a1_2, a1_3⟩ : S36)] : List (S36))) (inner := [.string a1_0, .int .i64 a1_1, .bool a1_2, .string a1_3]) (ok := fun _ => True) (okp := fun _ => True) ?hr ?hp (fun _ hk => hk) trivial (Below.refl _ _) (Nat.le_refl _) (by simp) ?_; (case hd => rfl); (case hg => rfl); (case hr => first | (go_simp; done) | (go_simp; rfl)); (case hp => exact (Reps.c4 (show Kd.M k36 _ _ _ (⟨a1_0, a1_1, a1_2, a1_3⟩ : S36) [.string a1_0, .int .i64 a1_1, .bool a1_2, .string a1_3] from (k36_mkM _ _ _ (⟨a1_0, a1_1, a1_2, a1_3⟩ : S36) )) (Reps.none _ _)))
            intro v367 w53 ho54 hb hg_ hnew_
            clear hg_ hnew_
            (first | rw [← Ny366.out] at ho54 | (simp only [Int.reduceToNat] at ho54; rw [← Ny366.out] at ho54))
            have n0_ := Aside0.mk (Kd.V_elder' HO_0.out (Kd.R_base ho54) hb)
            have n1_ := Aside0.mk (Kd.V_elder' HO362.out (Kd.R_base ho54) hb)
            have n2_ := Aside0.mk (Kd.V_elder' HO376.out (Kd.R_base ho54) hb)
            have n3_ := Aside0.mk (Kd.R_elder' HO357.out (Kd.R_base ho54) hb)
            have n4_ := Aside0.mk (Kd.R_lower (Kd.R_newB (Kd.R_new' (Kd.R_newM (M := fun k_ => (w.heap.size ≤ k_)) ho54 (below_size (by repeat (first | (with_reducible first | exact HB.out | apply below_alloc | apply pw_below_drewN | apply below_drew1 | refine below_set ?_ GE325.out) | exact HB.out))) (fun k_ h_ => h_)) (Kd.R_lt HO357.out)) (g := gb325) (o := .cells #[.string a1_0, .int .i64 a1_1, .bool a1_2, .string a1_3] 36 (0, 0)) (by (with_reducible repeat (first | refine blk_drewN ?_ _ | refine blk_drew ?_ | refine blk_alloc ?_ _)); exact BK325.out)) (below_size (by repeat (first | (with_reducible first | exact HB.out | apply below_alloc | apply pw_below_drewN | apply below_drew1 | refine below_set ?_ GE325.out) | exact HB.out))))
            have n5_ := Aside0.mk (blk_below (g := gb325) (o := .cells #[.string a1_0, .int .i64 a1_1, .bool a1_2, .string a1_3] 36 (0, 0)) (by (with_reducible repeat (first | refine blk_drewN ?_ _ | refine blk_drew ?_ | refine blk_alloc ?_ _)); exact BK325.out) hb)
            have n6_ := Aside0.mk (below_step (by repeat (first | (with_reducible first | exact HB.out | apply below_alloc | apply pw_below_drewN | apply below_drew1 | refine below_set ?_ GE325.out) | exact HB.out)) hb)
            clear HO_0
            clear HO362
            clear HO376
            clear HO357
            clear BK325
            clear HB
            have HO_0 := n0_
            have HO362 := n1_
            have HO376 := n2_
            have HO357 := n3_
            have HO368 := n4_
            have BK325 := n5_
            have HB := n6_
            clear n0_ n1_ n2_ n3_ n4_ n5_ n6_
            clear hb ho54
            refine hK.out _ _ ⟨(blk_cell BK325.out 0).trans rfl, (blk_cell BK325.out 1).trans rfl, (blk_cell BK325.out 2).trans rfl, (blk_cell BK325.out 3).trans rfl⟩ (fun hHeld => ?_)
            clear hK K
            refine norm_ (a' := ?_) ?_ ?_
            rotate_left
            ·show Act.put _ (some 40) _ = _
             simp only [Act.put, List.setIfInBounds_toArray, List.set_cons_zero, List.set_cons_succ, i64_w, i32_w]
             rfl
            refine one_ (i := 4) (N := some 38) #[tt, tt, tt, tt, tt, tt, tt, ff, tt, tt, tt, ff, ff] rfl rfl (one_of HT_.out (by kernel_rfl)) (by decide) (fun K hK => ?_)
            refine Kd.R_append_rows_step k36 (w0 := w) w.heap.size (by rfl) (.tmp 34) (.tmp 37) 27 36 (.agg #[(.string ⟨#[]⟩), (.int .i64 0), (.bool false), (.string ⟨#[]⟩)]) 48 rfl Try.underlying27 info36 rfl (by decide) (by omega) v356 y355 y358 _ _ _ (fun k_ => (w.heap.size ≤ k_) ∧ some k_ ≠ (v367 : Value).ownBlock ∧ k_ ≠ gb325) (fun _ => False) rfl rfl ?aO ?aR (fun _ _ h => h) (fun _ h => h.elim) ?aF ?aB ?aS ?aL ?_
            (case aR => repeat (first | exact (Kd.V_reads' HO362.out).2.2 | (with_reducible refine Kd.C_alloc ?_ _) | (with_reducible refine Kd.C_drewN ?_ _) | (with_reducible refine Kd.C_drew ?_)))
            (case aB => exact (by repeat (first | (with_reducible first | exact HB.out | apply below_alloc | apply pw_below_drewN | apply below_drew1 | refine below_set ?_ GE325.out) | exact HB.out)))
            (case aF => exact (fun k_ hk => ⟨(Nat.le_trans (below_size (by repeat (first | (with_reducible first | exact HB.out | apply below_alloc | apply pw_below_drewN | apply below_drew1 | refine below_set ?_ GE325.out) | exact HB.out))) hk), Kd.fresh' (Kd.R_lt HO368.out) k_ hk, Kd.freshB (g := gb325) (o := .cells #[.string a1_0, .int .i64 a1_1, .bool a1_2, .string a1_3] 36 (0, 0)) (by (with_reducible repeat (first | refine blk_drewN ?_ _ | refine blk_drew ?_ | refine blk_alloc ?_ _)); exact BK325.out) k_ hk⟩))
            (case aO => exact (by (with_reducible repeat (first | apply Kd.R_alloc | apply Kd.R_drewN | apply Kd.R_drew)); exact Kd.R_mono HO357.out (fun _ hk => ⟨hk.1.1.1, ⟨hk.2, hk.1.2⟩⟩)))
            (case aS => exact (below_size (by repeat (first | (with_reducible first | exact HB.out | apply below_alloc | apply pw_below_drewN | apply below_drew1 | refine below_set ?_ GE325.out) | exact HB.out))))
            (case aL => have := LMc41.out; omega)
            intro v364 w55 ho hb hg hat
            rw [← Ny363.out] at ho
            have n0_ := Aside0.mk (Kd.V_afterv (ok := (fun k_ => (P0_ k_ ∨ w.heap.size ≤ k_) ∧ some k_ ≠ (v367 : Value).ownBlock ∧ k_ ≠ gb325)) (by (with_reducible repeat (first | apply Kd.V_alloc | apply Kd.V_drewN | apply Kd.V_drew)); exact Kd.V_mono HO_0.out (fun _ hk => ⟨⟨hk.1.1.1, ⟨hk.2, hk.1.1.2⟩⟩, hk.1.2⟩)) hg hat)
            have n1_ := Aside0.mk (blk_grown (g := gb325) (o := .cells #[.string a1_0, .int .i64 a1_1, .bool a1_2, .string a1_3] 36 (0, 0)) (by (with_reducible repeat (first | refine blk_drewN ?_ _ | refine blk_drew ?_ | refine blk_alloc ?_ _)); exact BK325.out) hg (Kd.R_away HO357.out (fun _ hk => hk.1.2)))
            have n2_ := Aside0.mk (Kd.V_afterv (ok := (fun k_ => (P0_ k_ ∨ w.heap.size ≤ k_) ∧ some k_ ≠ (v367 : Value).ownBlock ∧ k_ ≠ gb325)) (by (with_reducible repeat (first | apply Kd.V_alloc | apply Kd.V_drewN | apply Kd.V_drew)); exact Kd.V_mono HO362.out (fun _ hk => ⟨⟨hk.1.1.1, ⟨hk.2, hk.1.1.2⟩⟩, hk.1.2⟩)) hg hat)
            have n3_ := Aside0.mk (Kd.V_afterv (ok := (fun k_ => (P0_ k_ ∨ w.heap.size ≤ k_) ∧ some k_ ≠ (v367 : Value).ownBlock ∧ k_ ≠ gb325)) (by (with_reducible repeat (first | apply Kd.V_alloc | apply Kd.V_drewN | apply Kd.V_drew)); exact Kd.V_mono HO376.out (fun _ hk => ⟨⟨hk.1.1.1, ⟨hk.2, hk.1.1.2⟩⟩, hk.1.2⟩)) hg hat)
            have n4_ := Aside0.mk (Kd.R_after (ok := (fun k_ => (w.heap.size ≤ k_) ∧ k_ ≠ gb325)) (by (with_reducible repeat (first | apply Kd.R_alloc | apply Kd.R_drewN | apply Kd.R_drew)); exact Kd.R_mono HO368.out (fun _ hk => ⟨⟨hk.1.1.1, hk.2⟩, hk.1.2⟩)) hg hat)
            have n5_ := Aside0.mk (hb)
            have n6_ := Aside0.mk (ho)
            clear HO_0
            clear BK325
            clear HO362
            clear HO376
            clear HO368
            clear HB
            clear HO357
            have HO_0 := n0_
            have BK325 := n1_
            have HO362 := n2_
            have HO376 := n3_
            have HO368 := n4_
            have HB := n5_
            have HO365 := n6_
            clear n0_ n1_ n2_ n3_ n4_ n5_ n6_
            clear ho hb hg hat
            refine hK.out _ _ ⟨(blk_cell BK325.out 0).trans rfl, (blk_cell BK325.out 1).trans rfl, (blk_cell BK325.out 2).trans rfl, (blk_cell BK325.out 3).trans rfl⟩ (fun hHeld => ?_)
            clear hK K
            refine norm_ (a' := ?_) ?_ ?_
            rotate_left
            ·show Act.put _ (some 38) _ = _
             simp only [Act.put, List.setIfInBounds_toArray, List.set_cons_zero, List.set_cons_succ, i64_w, i32_w]
             rfl
            exact norm_ (by simp only [putAll, Act.put, List.setIfInBounds_toArray, List.set_cons_zero, List.set_cons_succ]) (hCont (v356, v364, v367) _ ⟨hHeld, (by (with_reducible repeat (first | apply Kd.V_alloc | apply Kd.V_drewN | apply Kd.V_drew)); exact Kd.V_mono HO362.out (fun _ hk => ⟨hk.1.1, ⟨hk.2, ⟨hk.1.2.1, hk.1.2.2⟩⟩⟩)), HO365.out, (by (with_reducible repeat (first | apply Kd.R_alloc | apply Kd.R_drewN | apply Kd.R_drew)); exact Kd.R_mono HO368.out (fun _ hk => ⟨hk.1.1, ⟨hk.2, hk.1.2⟩⟩)), (by (with_reducible repeat (first | apply Kd.V_alloc | apply Kd.V_drewN | apply Kd.V_drew)); exact Kd.V_mono HO376.out (fun _ hk => ⟨hk.1.1, ⟨hk.2, ⟨hk.1.2.1, hk.1.2.2⟩⟩⟩)), (by (with_reducible repeat (first | apply Kd.V_alloc | apply Kd.V_drewN | apply Kd.V_drew)); exact Kd.V_mono HO_0.out (fun _ hk => ⟨hk.1.1, ⟨hk.2, ⟨hk.1.2.1, hk.1.2.2⟩⟩⟩)), (by (with_reducible repeat (first | refine blk_drewN ?_ _ | refine blk_drew ?_ | refine blk_alloc ?_ _)); exact BK325.out), (by repeat (first | (with_reducible first | exact HB.out | apply below_alloc | apply pw_below_drewN | apply below_drew1 | refine below_set ?_ GE325.out) | exact HB.out))⟩)
          ·skip
           refine Kd.R_lit_step k36 _ 36 ?hg (N := 40) ?hd (xs := ([(⟨a1_0, a1_1, a1_2, a1_3⟩ : S36)] : List (S36))) (inner := [.string a1_0, .int .i64 a1_1, .bool a1_2, .string a1_3]) (ok := fun _ => True) (okp := fun _ => True) ?hr ?hp (fun _ hk => hk) trivial (Below.refl _ _) (Nat.le_refl _) (by simp) ?_; (case hd => rfl); (case hg => rfl); (case hr => first | (go_simp; done) | (go_simp; rfl)); (case hp => exact (Reps.c4 (show Kd.M k36 _ _ _ (⟨a1_0, a1_1, a1_2, a1_3⟩ : S36) [.string a1_0, .int .i64 a1_1, .bool a1_2, .string a1_3] from (k36_mkM _ _ _ (⟨a1_0, a1_1, a1_2, a1_3⟩ : S36) )) (Reps.none _ _)))
           intro v367 w51 ho52 hb hg_ hnew_
           clear hg_ hnew_
           (first | rw [← Ny366.out] at ho52 | (simp only [Int.reduceToNat] at ho52; rw [← Ny366.out] at ho52))
           have n0_ := Aside0.mk (Kd.V_elder' HO_0.out (Kd.R_base ho52) hb)
           have n1_ := Aside0.mk (Kd.V_elder' HO362.out (Kd.R_base ho52) hb)
           have n2_ := Aside0.mk (Kd.V_elder' HO376.out (Kd.R_base ho52) hb)
           have n3_ := Aside0.mk (Kd.R_lower (Kd.R_newB (Kd.R_newM (M := fun k_ => (w.heap.size ≤ k_)) ho52 (below_size (by repeat (first | (with_reducible first | exact HB.out | apply below_alloc | apply pw_below_drewN | apply below_drew1 | refine below_set ?_ GE325.out) | exact HB.out))) (fun k_ h_ => h_)) (g := gb325) (o := .cells #[.string a1_0, .int .i64 a1_1, .bool a1_2, .string a1_3] 36 (0, 0)) (by (with_reducible repeat (first | refine blk_drewN ?_ _ | refine blk_drew ?_ | refine blk_alloc ?_ _)); exact BK325.out)) (below_size (by repeat (first | (with_reducible first | exact HB.out | apply below_alloc | apply pw_below_drewN | apply below_drew1 | refine below_set ?_ GE325.out) | exact HB.out))))
           have n4_ := Aside0.mk (blk_below (g := gb325) (o := .cells #[.string a1_0, .int .i64 a1_1, .bool a1_2, .string a1_3] 36 (0, 0)) (by (with_reducible repeat (first | refine blk_drewN ?_ _ | refine blk_drew ?_ | refine blk_alloc ?_ _)); exact BK325.out) hb)
           have n5_ := Aside0.mk (below_step (by repeat (first | (with_reducible first | exact HB.out | apply below_alloc | apply pw_below_drewN | apply below_drew1 | refine below_set ?_ GE325.out) | exact HB.out)) hb)
           clear HO_0
           clear HO362
           clear HO376
           clear BK325
           clear HB
           have HO_0 := n0_
           have HO362 := n1_
           have HO376 := n2_
           have HO368 := n3_
           have BK325 := n4_
           have HB := n5_
           clear n0_ n1_ n2_ n3_ n4_ n5_
           clear hb ho52
           refine hK.out _ _ ⟨(blk_cell BK325.out 0).trans rfl, (blk_cell BK325.out 1).trans rfl, (blk_cell BK325.out 2).trans rfl, (blk_cell BK325.out 3).trans rfl⟩ (fun hHeld => ?_)
           clear hK K
           refine norm_ (a' := ?_) ?_ ?_
           rotate_left
           ·show Act.put _ (some 40) _ = _
            simp only [Act.put, List.setIfInBounds_toArray, List.set_cons_zero, List.set_cons_succ, i64_w, i32_w]
            rfl
           refine one_ (i := 0) (N := some 34) #[tt, tt, tt, tt, ff, tt, tt, ff, tt, tt, tt, ff, ff] rfl rfl (one_of HT_.out (by kernel_rfl)) (by decide) (fun K hK => ?_)
           refine Kd.R_lit_step k36 _ 36 ?hg (N := 34) ?hd (xs := ([] : List (S36))) (inner := []) (ok := fun _ => True) (okp := fun _ => True) ?hr ?hp (fun _ hk => hk) trivial (Below.refl _ _) (Nat.le_refl _) (by simp) ?_; (case hd => rfl); (case hg => rfl); (case hr => first | (go_simp; done) | (go_simp; rfl)); (case hp => exact (Reps.none _ _))
           intro v356 w53 ho54 hb hg_ hnew_
           clear hg_ hnew_
           (first | rw [← Ny355.out] at ho54 | (simp only [Int.reduceToNat] at ho54; rw [← Ny355.out] at ho54))
           have n0_ := Aside0.mk (Kd.V_elder' HO_0.out (Kd.R_base ho54) hb)
           have n1_ := Aside0.mk (Kd.V_elder' HO362.out (Kd.R_base ho54) hb)
           have n2_ := Aside0.mk (Kd.V_elder' HO376.out (Kd.R_base ho54) hb)
           have n3_ := Aside0.mk (Kd.R_elder' HO368.out (Kd.R_base ho54) hb)
           have n4_ := Aside0.mk (Kd.R_lower (Kd.R_newB (Kd.R_new' (Kd.R_newM (M := fun k_ => (w.heap.size ≤ k_)) ho54 (below_size (by repeat (first | (with_reducible first | exact HB.out | apply below_alloc | apply pw_below_drewN | apply below_drew1 | refine below_set ?_ GE325.out) | exact HB.out))) (fun k_ h_ => h_)) (Kd.R_lt HO368.out)) (g := gb325) (o := .cells #[.string a1_0, .int .i64 a1_1, .bool a1_2, .string a1_3] 36 (0, 0)) (by (with_reducible repeat (first | refine blk_drewN ?_ _ | refine blk_drew ?_ | refine blk_alloc ?_ _)); exact BK325.out)) (below_size (by repeat (first | (with_reducible first | exact HB.out | apply below_alloc | apply pw_below_drewN | apply below_drew1 | refine below_set ?_ GE325.out) | exact HB.out))))
           have n5_ := Aside0.mk (blk_below (g := gb325) (o := .cells #[.string a1_0, .int .i64 a1_1, .bool a1_2, .string a1_3] 36 (0, 0)) (by (with_reducible repeat (first | refine blk_drewN ?_ _ | refine blk_drew ?_ | refine blk_alloc ?_ _)); exact BK325.out) hb)
           have n6_ := Aside0.mk (below_step (by repeat (first | (with_reducible first | exact HB.out | apply below_alloc | apply pw_below_drewN | apply below_drew1 | refine below_set ?_ GE325.out) | exact HB.out)) hb)
           clear HO_0
           clear HO362
           clear HO376
           clear HO368
           clear BK325
           clear HB
           have HO_0 := n0_
           have HO362 := n1_
           have HO376 := n2_
           have HO368 := n3_
           have HO357 := n4_
           have BK325 := n5_
           have HB := n6_
           clear n0_ n1_ n2_ n3_ n4_ n5_ n6_
           clear hb ho54
           refine hK.out _ _ ⟨(blk_cell BK325.out 0).trans rfl, (blk_cell BK325.out 1).trans rfl, (blk_cell BK325.out 2).trans rfl, (blk_cell BK325.out 3).trans rfl⟩ (fun hHeld => ?_)
           clear hK K
           refine norm_ (a' := ?_) ?_ ?_
           rotate_left
           ·show Act.put _ (some 34) _ = _
            simp only [Act.put, List.setIfInBounds_toArray, List.set_cons_zero, List.set_cons_succ, i64_w, i32_w]
            rfl
           refine one_ (i := 4) (N := some 38) #[tt, tt, tt, tt, tt, tt, tt, ff, tt, tt, tt, ff, ff] rfl rfl (one_of HT_.out (by kernel_rfl)) (by decide) (fun K hK => ?_)
           refine Kd.R_append_rows_step k36 (w0 := w) w.heap.size (by rfl) (.tmp 34) (.tmp 37) 27 36 (.agg #[(.string ⟨#[]⟩), (.int .i64 0), (.bool false), (.string ⟨#[]⟩)]) 48 rfl Try.underlying27 info36 rfl (by decide) (by omega) v356 y355 y358 _ _ _ (fun k_ => (w.heap.size ≤ k_) ∧ some k_ ≠ (v367 : Value).ownBlock ∧ k_ ≠ gb325) (fun _ => False) rfl rfl ?aO ?aR (fun _ _ h => h) (fun _ h => h.elim) ?aF ?aB ?aS ?aL ?_
           (case aR => repeat (first | exact (Kd.V_reads' HO362.out).2.2 | (with_reducible refine Kd.C_alloc ?_ _) | (with_reducible refine Kd.C_drewN ?_ _) | (with_reducible refine Kd.C_drew ?_)))
           (case aB => exact (by repeat (first | (with_reducible first | exact HB.out | apply below_alloc | apply pw_below_drewN | apply below_drew1 | refine below_set ?_ GE325.out) | exact HB.out)))
           (case aF => exact (fun k_ hk => ⟨(Nat.le_trans (below_size (by repeat (first | (with_reducible first | exact HB.out | apply below_alloc | apply pw_below_drewN | apply below_drew1 | refine below_set ?_ GE325.out) | exact HB.out))) hk), Kd.fresh' (Kd.R_lt HO368.out) k_ hk, Kd.freshB (g := gb325) (o := .cells #[.string a1_0, .int .i64 a1_1, .bool a1_2, .string a1_3] 36 (0, 0)) (by (with_reducible repeat (first | refine blk_drewN ?_ _ | refine blk_drew ?_ | refine blk_alloc ?_ _)); exact BK325.out) k_ hk⟩))
           (case aO => exact (by (with_reducible repeat (first | apply Kd.R_alloc | apply Kd.R_drewN | apply Kd.R_drew)); exact Kd.R_mono HO357.out (fun _ hk => ⟨hk.1.1.1, ⟨hk.1.2, hk.2⟩⟩)))
           (case aS => exact (below_size (by repeat (first | (with_reducible first | exact HB.out | apply below_alloc | apply pw_below_drewN | apply below_drew1 | refine below_set ?_ GE325.out) | exact HB.out))))
           (case aL => have := LMc41.out; omega)
           intro v364 w55 ho hb hg hat
           rw [← Ny363.out] at ho
           have n0_ := Aside0.mk (Kd.V_afterv (ok := (fun k_ => (P0_ k_ ∨ w.heap.size ≤ k_) ∧ some k_ ≠ (v367 : Value).ownBlock ∧ k_ ≠ gb325)) (by (with_reducible repeat (first | apply Kd.V_alloc | apply Kd.V_drewN | apply Kd.V_drew)); exact Kd.V_mono HO_0.out (fun _ hk => ⟨⟨hk.1.1.1, ⟨hk.1.2, hk.1.1.2⟩⟩, hk.2⟩)) hg hat)
           have n1_ := Aside0.mk (blk_grown (g := gb325) (o := .cells #[.string a1_0, .int .i64 a1_1, .bool a1_2, .string a1_3] 36 (0, 0)) (by (with_reducible repeat (first | refine blk_drewN ?_ _ | refine blk_drew ?_ | refine blk_alloc ?_ _)); exact BK325.out) hg (Kd.R_away HO357.out (fun _ hk => hk.2)))
           have n2_ := Aside0.mk (Kd.V_afterv (ok := (fun k_ => (P0_ k_ ∨ w.heap.size ≤ k_) ∧ some k_ ≠ (v367 : Value).ownBlock ∧ k_ ≠ gb325)) (by (with_reducible repeat (first | apply Kd.V_alloc | apply Kd.V_drewN | apply Kd.V_drew)); exact Kd.V_mono HO362.out (fun _ hk => ⟨⟨hk.1.1.1, ⟨hk.1.2, hk.1.1.2⟩⟩, hk.2⟩)) hg hat)
           have n3_ := Aside0.mk (Kd.V_afterv (ok := (fun k_ => (P0_ k_ ∨ w.heap.size ≤ k_) ∧ some k_ ≠ (v367 : Value).ownBlock ∧ k_ ≠ gb325)) (by (with_reducible repeat (first | apply Kd.V_alloc | apply Kd.V_drewN | apply Kd.V_drew)); exact Kd.V_mono HO376.out (fun _ hk => ⟨⟨hk.1.1.1, ⟨hk.1.2, hk.1.1.2⟩⟩, hk.2⟩)) hg hat)
           have n4_ := Aside0.mk (Kd.R_after (ok := (fun k_ => (w.heap.size ≤ k_) ∧ k_ ≠ gb325)) (by (with_reducible repeat (first | apply Kd.R_alloc | apply Kd.R_drewN | apply Kd.R_drew)); exact Kd.R_mono HO368.out (fun _ hk => ⟨⟨hk.1.1.1, hk.1.2⟩, hk.2⟩)) hg hat)
           have n5_ := Aside0.mk (hb)
           have n6_ := Aside0.mk (ho)
           clear HO_0
           clear BK325
           clear HO362
           clear HO376
           clear HO368
           clear HB
           clear HO357
           have HO_0 := n0_
           have BK325 := n1_
           have HO362 := n2_
           have HO376 := n3_
           have HO368 := n4_
           have HB := n5_
           have HO365 := n6_
           clear n0_ n1_ n2_ n3_ n4_ n5_ n6_
           clear ho hb hg hat
           refine hK.out _ _ ⟨(blk_cell BK325.out 0).trans rfl, (blk_cell BK325.out 1).trans rfl, (blk_cell BK325.out 2).trans rfl, (blk_cell BK325.out 3).trans rfl⟩ (fun hHeld => ?_)
           clear hK K
           refine norm_ (a' := ?_) ?_ ?_
           rotate_left
           ·show Act.put _ (some 38) _ = _
            simp only [Act.put, List.setIfInBounds_toArray, List.set_cons_zero, List.set_cons_succ, i64_w, i32_w]
            rfl
           exact norm_ (by simp only [putAll, Act.put, List.setIfInBounds_toArray, List.set_cons_zero, List.set_cons_succ]) (hCont (v356, v364, v367) _ ⟨hHeld, (by (with_reducible repeat (first | apply Kd.V_alloc | apply Kd.V_drewN | apply Kd.V_drew)); exact Kd.V_mono HO362.out (fun _ hk => ⟨hk.1.1, ⟨hk.2, ⟨hk.1.2.1, hk.1.2.2⟩⟩⟩)), HO365.out, (by (with_reducible repeat (first | apply Kd.R_alloc | apply Kd.R_drewN | apply Kd.R_drew)); exact Kd.R_mono HO368.out (fun _ hk => ⟨hk.1.1, ⟨hk.2, hk.1.2⟩⟩)), (by (with_reducible repeat (first | apply Kd.V_alloc | apply Kd.V_drewN | apply Kd.V_drew)); exact Kd.V_mono HO376.out (fun _ hk => ⟨hk.1.1, ⟨hk.2, ⟨hk.1.2.1, hk.1.2.2⟩⟩⟩)), (by (with_reducible repeat (first | apply Kd.V_alloc | apply Kd.V_drewN | apply Kd.V_drew)); exact Kd.V_mono HO_0.out (fun _ hk => ⟨hk.1.1, ⟨hk.2, ⟨hk.1.2.1, hk.1.2.2⟩⟩⟩)), (by (with_reducible repeat (first | refine blk_drewN ?_ _ | refine blk_drew ?_ | refine blk_alloc ?_ _)); exact BK325.out), (by repeat (first | (with_reducible first | exact HB.out | apply below_alloc | apply pw_below_drewN | apply below_drew1 | refine below_set ?_ GE325.out) | exact HB.out))⟩)
         rintro ⟨v356, v364, v367⟩ w56 ⟨hS_, h0_, h1_, h2_, h3_, h4_, h5_, h6_⟩
         have n0_ : Aside0 (Kd.V k36 36 w56 w.heap.size (fun k_ => (P0_ k_ ∨ w.heap.size ≤ k_) ∧ some k_ ≠ (v364 : Value).ownBlock ∧ some k_ ≠ (v367 : Value).ownBlock ∧ k_ ≠ gb325) (.slice A0 y358.length c0) y358) := ⟨h0_⟩
         have n1_ : Aside0 (Kd.R k36 36 w56 w.heap.size (fun k_ => (w.heap.size ≤ k_) ∧ some k_ ≠ (v367 : Value).ownBlock ∧ k_ ≠ gb325) v364 y363) := ⟨h1_⟩
         have n2_ : Aside0 (Kd.R k36 36 w56 w.heap.size (fun k_ => (w.heap.size ≤ k_) ∧ some k_ ≠ (v364 : Value).ownBlock ∧ k_ ≠ gb325) v367 y366) := ⟨h2_⟩
         have n3_ : Aside0 (Kd.V k36 36 w56 w.heap.size (fun k_ => (P0_ k_ ∨ w.heap.size ≤ k_) ∧ some k_ ≠ (v364 : Value).ownBlock ∧ some k_ ≠ (v367 : Value).ownBlock ∧ k_ ≠ gb325) (.slice A50 y372.length c50) y372) := ⟨h3_⟩
         have n4_ : Aside0 (Kd.V k36 36 w56 w.heap.size (fun k_ => (P0_ k_ ∨ w.heap.size ≤ k_) ∧ some k_ ≠ (v364 : Value).ownBlock ∧ some k_ ≠ (v367 : Value).ownBlock ∧ k_ ≠ gb325) (.slice A0 l0.length c0) l0) := ⟨h4_⟩
         have n5_ : Aside0 (w56.heap[gb325]? = some (.cells #[.string a1_0, .int .i64 a1_1, .bool a1_2, .string a1_3] 36 (0, 0))) := ⟨h5_⟩
         have n6_ : Aside0 (Below w.heap.size w w56) := ⟨h6_⟩
         clear HO_0
         clear BK325
         clear HB
         clear h0_ h1_ h2_ h3_ h4_ h5_ h6_
         have HO362 := n0_
         have HO365 := n1_
         have HO368 := n2_
         have HO376 := n3_
         have HO_0 := n4_
         have BK325 := n5_
         have HB := n6_
         clear n0_ n1_ n2_ n3_ n4_ n5_ n6_
         have hHeld : w56.cell? ⟨gb325, 0, none⟩ = some (.string a1_0) ∧ w56.cell? ⟨gb325, 1, none⟩ = some (.int .i64 a1_1) ∧ w56.cell? ⟨gb325, 2, none⟩ = some (.bool a1_2) ∧ w56.cell? ⟨gb325, 3, none⟩ = some (.string a1_3) := hS_
         obtain ⟨Ao58, co58, eo58⟩ := Kd.R_slice HO368.out
         (first | subst eo58 | (injection eo58 with f1_ f2_ f3_; have f4_ := f1_.symm; have f5_ := f3_.symm; clear f1_ f2_ f3_; subst f4_; subst f5_))
         refine norm_ (a' := ?_) ?_ ?_
         rotate_left
         ·simp only [putAll, Act.put, List.setIfInBounds_toArray, List.set_cons_zero, List.set_cons_succ]
          rfl
         refine one_ (i := 7) (N := some 41) #[tt, tt, tt, tt, tt, tt, tt, tt, tt, tt, tt, ff, ff] rfl rfl (one_of HT_.out (by kernel_rfl)) (by decide) (fun K hK => ?_)
         refine Kd.R_append_rows_step k36 (w0 := w) w.heap.size (by rfl) (.tmp 38) (.tmp 40) 27 36 (.agg #[(.string ⟨#[]⟩), (.int .i64 0), (.bool false), (.string ⟨#[]⟩)]) 48 rfl Try.underlying27 info36 rfl (by decide) (by omega) v364 y363 y366 _ _ _ (fun k_ => (w.heap.size ≤ k_) ∧ some k_ ≠ (.slice Ao58 y366.length co58 : Value).ownBlock ∧ k_ ≠ gb325) (fun _ => False) rfl rfl ?aO ?aR (fun _ _ h => h) (fun _ h => h.elim) ?aF ?aB ?aS ?aL ?_
         (case aR => repeat (first | exact (Kd.R_reads' HO368.out).2.2 | (with_reducible refine Kd.C_alloc ?_ _) | (with_reducible refine Kd.C_drewN ?_ _) | (with_reducible refine Kd.C_drew ?_)))
         (case aB => exact (by repeat (first | (with_reducible first | exact HB.out | apply below_alloc | apply pw_below_drewN | apply below_drew1 | refine below_set ?_ GE325.out) | exact HB.out)))
         (case aF => exact (fun k_ hk => ⟨(Nat.le_trans (below_size (by repeat (first | (with_reducible first | exact HB.out | apply below_alloc | apply pw_below_drewN | apply below_drew1 | refine below_set ?_ GE325.out) | exact HB.out))) hk), Kd.fresh' (Kd.R_lt HO368.out) k_ hk, Kd.freshB (g := gb325) (o := .cells #[.string a1_0, .int .i64 a1_1, .bool a1_2, .string a1_3] 36 (0, 0)) (by (with_reducible repeat (first | refine blk_drewN ?_ _ | refine blk_drew ?_ | refine blk_alloc ?_ _)); exact BK325.out) k_ hk⟩))
         (case aO => exact HO365.out)
         (case aS => exact (below_size (by repeat (first | (with_reducible first | exact HB.out | apply below_alloc | apply pw_below_drewN | apply below_drew1 | refine below_set ?_ GE325.out) | exact HB.out))))
         (case aL => have := LMc42.out; omega)
         intro v370 w57 ho hb hg hat
         rw [← Ny369.out] at ho
         have n0_ := Aside0.mk (Kd.V_afterv (ok := (fun k_ => (P0_ k_ ∨ w.heap.size ≤ k_) ∧ some k_ ≠ (.slice Ao58 y366.length co58 : Value).ownBlock ∧ k_ ≠ gb325)) (by (with_reducible repeat (first | apply Kd.V_alloc | apply Kd.V_drewN | apply Kd.V_drew)); exact Kd.V_mono HO_0.out (fun _ hk => ⟨⟨hk.1, ⟨hk.2.2.1, hk.2.2.2⟩⟩, hk.2.1⟩)) hg hat)
         have n1_ := Aside0.mk (blk_grown (g := gb325) (o := .cells #[.string a1_0, .int .i64 a1_1, .bool a1_2, .string a1_3] 36 (0, 0)) (by (with_reducible repeat (first | refine blk_drewN ?_ _ | refine blk_drew ?_ | refine blk_alloc ?_ _)); exact BK325.out) hg (Kd.R_away HO365.out (fun _ hk => hk.2.2)))
         have n2_ := Aside0.mk (Kd.V_afterv (ok := (fun k_ => (P0_ k_ ∨ w.heap.size ≤ k_) ∧ some k_ ≠ (.slice Ao58 y366.length co58 : Value).ownBlock ∧ k_ ≠ gb325)) (by (with_reducible repeat (first | apply Kd.V_alloc | apply Kd.V_drewN | apply Kd.V_drew)); exact Kd.V_mono HO362.out (fun _ hk => ⟨⟨hk.1, ⟨hk.2.2.1, hk.2.2.2⟩⟩, hk.2.1⟩)) hg hat)
         have n3_ := Aside0.mk (Kd.V_afterv (ok := (fun k_ => (P0_ k_ ∨ w.heap.size ≤ k_) ∧ some k_ ≠ (.slice Ao58 y366.length co58 : Value).ownBlock ∧ k_ ≠ gb325)) (by (with_reducible repeat (first | apply Kd.V_alloc | apply Kd.V_drewN | apply Kd.V_drew)); exact Kd.V_mono HO376.out (fun _ hk => ⟨⟨hk.1, ⟨hk.2.2.1, hk.2.2.2⟩⟩, hk.2.1⟩)) hg hat)
         have n4_ := Aside0.mk (Kd.R_after (ok := (fun k_ => (w.heap.size ≤ k_) ∧ k_ ≠ gb325)) (by (with_reducible repeat (first | apply Kd.R_alloc | apply Kd.R_drewN | apply Kd.R_drew)); exact Kd.R_mono HO368.out (fun _ hk => ⟨⟨hk.1, hk.2.2⟩, hk.2.1⟩)) hg hat)
         have n5_ := Aside0.mk (hb)
         have n6_ := Aside0.mk (ho)
         clear HO_0
         clear BK325
         clear HO362
         clear HO376
         clear HO368
         clear HB
         clear HO365
         have HO_0 := n0_
         have BK325 := n1_
         have HO362 := n2_
         have HO376 := n3_
         have HO368 := n4_
         have HB := n5_
         have HO371 := n6_
         clear n0_ n1_ n2_ n3_ n4_ n5_ n6_
         clear ho hb hg hat
         refine hK.out _ _ ⟨(blk_cell BK325.out 0).trans rfl, (blk_cell BK325.out 1).trans rfl, (blk_cell BK325.out 2).trans rfl, (blk_cell BK325.out 3).trans rfl⟩ (fun hHeld => ?_)
         clear hK K
         refine norm_ (a' := ?_) ?_ ?_
         rotate_left
         ·show Act.put _ (some 41) _ = _
          simp only [Act.put, List.setIfInBounds_toArray, List.set_cons_zero, List.set_cons_succ, i64_w, i32_w]
          rfl
         refine one_ (i := 11) (N := some 45) #[tt, tt, tt, tt, tt, tt, tt, tt, tt, tt, tt, tt, ff] rfl rfl (one_of HT_.out (by kernel_rfl)) (by decide) (fun K hK => ?_)
         refine Kd.R_append_rows_step k36 (w0 := w) w.heap.size (by rfl) (.tmp 41) (.tmp 44) 27 36 (.agg #[(.string ⟨#[]⟩), (.int .i64 0), (.bool false), (.string ⟨#[]⟩)]) 48 rfl Try.underlying27 info36 rfl (by decide) (by omega) v370 y369 y372 _ _ _ (fun k_ => (w.heap.size ≤ k_) ∧ some k_ ≠ (.slice Ao58 y366.length co58 : Value).ownBlock ∧ k_ ≠ gb325) (fun _ => False) rfl rfl ?aO ?aR (fun _ _ h => h) (fun _ h => h.elim) ?aF ?aB ?aS ?aL ?_
         (case aR => repeat (first | exact (Kd.V_reads' HO376.out).2.2 | (with_reducible refine Kd.C_alloc ?_ _) | (with_reducible refine Kd.C_drewN ?_ _) | (with_reducible refine Kd.C_drew ?_)))
         (case aB => exact (by repeat (first | (with_reducible first | exact HB.out | apply below_alloc | apply pw_below_drewN | apply below_drew1 | refine below_set ?_ GE325.out) | exact HB.out)))
         (case aF => exact (fun k_ hk => ⟨(Nat.le_trans (below_size (by repeat (first | (with_reducible first | exact HB.out | apply below_alloc | apply pw_below_drewN | apply below_drew1 | refine below_set ?_ GE325.out) | exact HB.out))) hk), Kd.fresh' (Kd.R_lt HO368.out) k_ hk, Kd.freshB (g := gb325) (o := .cells #[.string a1_0, .int .i64 a1_1, .bool a1_2, .string a1_3] 36 (0, 0)) (by (with_reducible repeat (first | refine blk_drewN ?_ _ | refine blk_drew ?_ | refine blk_alloc ?_ _)); exact BK325.out) k_ hk⟩))
         (case aO => exact HO371.out)
         (case aS => exact (below_size (by repeat (first | (with_reducible first | exact HB.out | apply below_alloc | apply pw_below_drewN | apply below_drew1 | refine below_set ?_ GE325.out) | exact HB.out))))
         (case aL => have := LMc45.out; omega)
         intro v378 w59 ho hb hg hat
         rw [← Ny377.out] at ho
         have n0_ := Aside0.mk (Kd.V_afterv (ok := (fun k_ => (P0_ k_ ∨ w.heap.size ≤ k_) ∧ some k_ ≠ (.slice Ao58 y366.length co58 : Value).ownBlock ∧ k_ ≠ gb325)) HO_0.out hg hat)
         have n1_ := Aside0.mk (blk_grown (g := gb325) (o := .cells #[.string a1_0, .int .i64 a1_1, .bool a1_2, .string a1_3] 36 (0, 0)) (by (with_reducible repeat (first | refine blk_drewN ?_ _ | refine blk_drew ?_ | refine blk_alloc ?_ _)); exact BK325.out) hg (Kd.R_away HO371.out (fun _ hk => hk.2.2)))
         have n2_ := Aside0.mk (Kd.V_afterv (ok := (fun k_ => (P0_ k_ ∨ w.heap.size ≤ k_) ∧ some k_ ≠ (.slice Ao58 y366.length co58 : Value).ownBlock ∧ k_ ≠ gb325)) HO362.out hg hat)
         have n3_ := Aside0.mk (Kd.V_afterv (ok := (fun k_ => (P0_ k_ ∨ w.heap.size ≤ k_) ∧ some k_ ≠ (.slice Ao58 y366.length co58 : Value).ownBlock ∧ k_ ≠ gb325)) HO376.out hg hat)
         have n4_ := Aside0.mk (Kd.R_after (ok := (fun k_ => (w.heap.size ≤ k_) ∧ k_ ≠ gb325)) HO368.out hg hat)
         have n5_ := Aside0.mk (hb)
         have n6_ := Aside0.mk (ho)
         clear HO_0
         clear BK325
         clear HO362
         clear HO376
         clear HO368
         clear HB
         clear HO371
         have HO_0 := n0_
         have BK325 := n1_
         have HO362 := n2_
         have HO376 := n3_
         have HO368 := n4_
         have HB := n5_
         have HO379 := n6_
         clear n0_ n1_ n2_ n3_ n4_ n5_ n6_
         clear ho hb hg hat
         refine hK.out _ _ ⟨(blk_cell BK325.out 0).trans rfl, (blk_cell BK325.out 1).trans rfl, (blk_cell BK325.out 2).trans rfl, (blk_cell BK325.out 3).trans rfl⟩ (fun hHeld => ?_)
         clear hK K
         refine norm_ (a' := ?_) ?_ ?_
         rotate_left
         ·show Act.put _ (some 45) _ = _
          simp only [Act.put, List.setIfInBounds_toArray, List.set_cons_zero, List.set_cons_succ, i64_w, i32_w]
          rfl
         refine pq_ (i := 12) (N := some 4) HT_ #[tt, tt, tt, tt, tt, tt, tt, tt, tt, tt, tt, tt, tt] ?_
         refine done_ (done_of HT_.out (by kernel_rfl)) ?_
         try go_wp2
         go_ret
         exact ⟨_, by first | rfl | (simp [errW_none, errW_some] <;> rfl) | (simp [*, errW_none, errW_some] <;> rfl), Kd.V_mono (Kd.R_V (by (with_reducible repeat (first | apply Kd.R_alloc | apply Kd.R_drewN | apply Kd.R_drew)); exact Kd.R_mono HO379.out (fun _ hk => hk.1))) (fun k_ hk => by first | exact ⟨(.inr (hk.1)), hk.2⟩ | exact (.inr (hk))), by repeat (first | (with_reducible first | exact HB.out | apply below_alloc | apply pw_below_drewN | apply below_drew1 | refine below_set ?_ GE325.out) | exact HB.out)⟩
        ·rw [if_neg c45] at H
         exact absurd H (by simp)
       ·rw [if_neg c42] at H
        exact absurd H (by simp)
      ·rw [if_neg c41] at H
       exact absurd H (by simp)
     ·rw [if_neg c40] at H
      exact absurd H (by simp)
    ·rw [if_neg c39] at H
     exact absurd H (by simp)

end Go.Proofs.Ythdoanbadhfhjaa.PAll

-- slimmed
