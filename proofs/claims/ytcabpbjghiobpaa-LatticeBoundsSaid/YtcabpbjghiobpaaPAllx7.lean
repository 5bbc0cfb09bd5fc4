-- Laid by ownprint.py (a program of the session, in wip/tools), out of the translation: Lean checks it.
import Derived.Test.YtcabpbjghiobpaaPAllx0
import Derived.Test.YtcabpbjghiobpaaPAllx2
import Derived.Test.YtcabpbjghiobpaaPAllx4
namespace Go.Proofs.Ytcabpbjghiobpaa.PAll
open Go.RowKit Go.Proofs.YtcabpbjghiobpaaW.PrintWords Go.Proofs.YtcabpbjghiobpaaW.PrintLast Go.Proofs.YtcabpbjghiobpaaW.PrintMore
attribute [local go_sem] max2_int min2_int max_two min_two max_three min_three max_four min_four   -- for this text's walks alone
set_option linter.unusedVariables false
set_option linter.unusedSimpArgs false

/-! ### moultlaw2_LatticeBounds: function 6 -/
mutual
def moultlaw2_LatticeBounds.j0 : Nat → Int → Int → Int → Int → Int → Bool → Option (Bool)
  | 0, _, _, _, _, _, _ => none
  | k + 1, x0, x1, x2, x8, x10, x83 => if x83 = true then (some false) else ((lattice_Below.f k x0 x2).bind fun t314 => (if t314 = true then ((lattice_Below.f k x1 x2).bind fun t315 => (moultlaw2_LatticeBounds.j1 k x0 x1 x2 x8 x10 t315)) else (moultlaw2_LatticeBounds.j1 k x0 x1 x2 x8 x10 false)))
def moultlaw2_LatticeBounds.j1 : Nat → Int → Int → Int → Int → Int → Bool → Option (Bool)
  | 0, _, _, _, _, _, _ => none
  | k + 1, x0, x1, x2, x8, x10, x12 => (lattice_Below.f k x2 x0).bind fun t316 => (if t316 = true then ((lattice_Below.f k x2 x1).bind fun t317 => ((lattice_Below.f k x8 x2).bind fun t318 => (if (x12 == t318) = true then ((lattice_Below.f k x2 x10).bind fun t319 => (some (t317 == t319))) else (some false)))) else ((lattice_Below.f k x8 x2).bind fun t320 => (if (x12 == t320) = true then ((lattice_Below.f k x2 x10).bind fun t321 => (some (false == t321))) else (some false))))
end
def moultlaw2_LatticeBounds.f (k : Nat) (a0 : Int) (a1 : Int) (a2 : Int) : Option (Bool) := (moultlaw2_shown.f k).bind fun t299 => (if t299 = true then ((lattice_Join.f k a0 a1).bind fun bt300 => ((lattice_Meet.f k a0 a1).bind fun bt302 => (if (bt300.2 != bt302.2) = true then (some false) else (if bt300.2 = true then ((lattice_Below.f k a0 bt300.1).bind fun t310 => (if t310 = true then ((lattice_Below.f k a1 bt300.1).bind fun t311 => (if t311 = true then ((lattice_Below.f k bt302.1 a0).bind fun t312 => (if t312 = true then ((lattice_Below.f k bt302.1 a1).bind fun t313 => (moultlaw2_LatticeBounds.j0 k a0 a1 a2 bt300.1 bt302.1 (!t313))) else (moultlaw2_LatticeBounds.j0 k a0 a1 a2 bt300.1 bt302.1 true))) else (moultlaw2_LatticeBounds.j0 k a0 a1 a2 bt300.1 bt302.1 true))) else (moultlaw2_LatticeBounds.j0 k a0 a1 a2 bt300.1 bt302.1 true))) else (if bt300.1 = 0 then (if bt302.1 = 0 then ((lattice_Below.f k a0 a2).bind fun t304 => (if t304 = true then ((lattice_Below.f k a1 a2).bind fun t305 => (if t305 = true then (some false) else ((lattice_Below.f k a2 a0).bind fun t306 => (if t306 = true then ((lattice_Below.f k a2 a1).bind fun t307 => (some (!t307))) else (some (!false)))))) else ((lattice_Below.f k a2 a0).bind fun t308 => (if t308 = true then ((lattice_Below.f k a2 a1).bind fun t309 => (some (!t309))) else (some (!false)))))) else (some false)) else (some false)))))) else (some false))
theorem moultlaw2_LatticeBounds.mono_l : ∀ k, (∀ y0 y1 y2 y3 y4 y5, LeO (moultlaw2_LatticeBounds.j0 k y0 y1 y2 y3 y4 y5) (moultlaw2_LatticeBounds.j0 (k + 1) y0 y1 y2 y3 y4 y5)) ∧ (∀ y0 y1 y2 y3 y4 y5, LeO (moultlaw2_LatticeBounds.j1 k y0 y1 y2 y3 y4 y5) (moultlaw2_LatticeBounds.j1 (k + 1) y0 y1 y2 y3 y4 y5))
  | 0 => ⟨fun _ _ _ _ _ _ r h => by simp [moultlaw2_LatticeBounds.j0] at h, fun _ _ _ _ _ _ r h => by simp [moultlaw2_LatticeBounds.j1] at h⟩
  | k + 1 => by
    obtain ⟨ih0, ih1⟩ := moultlaw2_LatticeBounds.mono_l k
    refine ⟨?_, ?_⟩
    · intro y0 y1 y2 y3 y4 y5
      unfold moultlaw2_LatticeBounds.j0
      repeat' first
      | (with_reducible exact ih0 _ _ _ _ _ _)
      | (with_reducible exact ih1 _ _ _ _ _ _)
      | (with_reducible exact lattice_Below.mono _ _ _)
      | (with_reducible exact lattice_Join.mono _ _ _)
      | (with_reducible exact lattice_Meet.mono _ _ _)
      | (with_reducible exact moultlaw2_shown.mono _)
      | (with_reducible exact LeO.refl _)
      | (with_reducible exact LeO.none _)
      | (with_reducible refine LeO.ite ?_ ?_)
      | (with_reducible refine LeO.bind ?_ (fun _ => ?_))
      | exact ih0 _ _ _ _ _ _
      | exact ih1 _ _ _ _ _ _
      | exact lattice_Below.mono _ _ _
      | exact lattice_Join.mono _ _ _
      | exact lattice_Meet.mono _ _ _
      | exact moultlaw2_shown.mono _
      | exact LeO.none _
      | refine LeO.ite ?_ ?_
      | refine LeO.bind ?_ (fun _ => ?_)
    · intro y0 y1 y2 y3 y4 y5
      unfold moultlaw2_LatticeBounds.j1
      repeat' first
      | (with_reducible exact ih0 _ _ _ _ _ _)
      | (with_reducible exact ih1 _ _ _ _ _ _)
      | (with_reducible exact lattice_Below.mono _ _ _)
      | (with_reducible exact lattice_Join.mono _ _ _)
      | (with_reducible exact lattice_Meet.mono _ _ _)
      | (with_reducible exact moultlaw2_shown.mono _)
      | (with_reducible exact LeO.refl _)
      | (with_reducible exact LeO.none _)
      | (with_reducible refine LeO.ite ?_ ?_)
      | (with_reducible refine LeO.bind ?_ (fun _ => ?_))
      | exact ih0 _ _ _ _ _ _
      | exact ih1 _ _ _ _ _ _
      | exact lattice_Below.mono _ _ _
      | exact lattice_Join.mono _ _ _
      | exact lattice_Meet.mono _ _ _
      | exact moultlaw2_shown.mono _
      | exact LeO.none _
      | refine LeO.ite ?_ ?_
      | refine LeO.bind ?_ (fun _ => ?_)
theorem moultlaw2_LatticeBounds.mono : ∀ a0 a1 a2 k, LeO (moultlaw2_LatticeBounds.f k a0 a1 a2) (moultlaw2_LatticeBounds.f (k + 1) a0 a1 a2) := by
  intro a0 a1 a2 k
  obtain ⟨ih0, ih1⟩ := moultlaw2_LatticeBounds.mono_l k
  unfold moultlaw2_LatticeBounds.f
  repeat' first
      | (with_reducible exact ih0 _ _ _ _ _ _)
      | (with_reducible exact ih1 _ _ _ _ _ _)
      | (with_reducible exact lattice_Below.mono _ _ _)
      | (with_reducible exact lattice_Join.mono _ _ _)
      | (with_reducible exact lattice_Meet.mono _ _ _)
      | (with_reducible exact moultlaw2_shown.mono _)
      | (with_reducible exact LeO.refl _)
      | (with_reducible exact LeO.none _)
      | (with_reducible refine LeO.ite ?_ ?_)
      | (with_reducible refine LeO.bind ?_ (fun _ => ?_))
      | exact ih0 _ _ _ _ _ _
      | exact ih1 _ _ _ _ _ _
      | exact lattice_Below.mono _ _ _
      | exact lattice_Join.mono _ _ _
      | exact lattice_Meet.mono _ _ _
      | exact moultlaw2_shown.mono _
      | exact LeO.none _
      | refine LeO.ite ?_ ?_
      | refine LeO.bind ?_ (fun _ => ?_)
set_option maxHeartbeats 8000000 in
set_option maxRecDepth 100000 in
theorem moultlaw2_LatticeBounds.calls (k : Nat) (a0 : Int) (a1 : Int) (a2 : Int) (r : Bool) (w : World) (h : moultlaw2_LatticeBounds.f k a0 a1 a2 = some r) :
    Calls Try.prog 6 #[.int .i64 a0, .int .i64 a1, .int .i64 a2] w fun e w' => e = .returned (.bool r) ∧ Below w.heap.size w w' := by
  have HB := Aside0.mk (Below.refl w.heap.size w)
  have H : ((moultlaw2_shown.f k).bind fun t299 => (if t299 = true then ((lattice_Join.f k a0 a1).bind fun bt300 => ((lattice_Meet.f k a0 a1).bind fun bt302 => (if (bt300.2 != bt302.2) = true then (some false) else (if bt300.2 = true then ((lattice_Below.f k a0 bt300.1).bind fun t310 => (if t310 = true then ((lattice_Below.f k a1 bt300.1).bind fun t311 => (if t311 = true then ((lattice_Below.f k bt302.1 a0).bind fun t312 => (if t312 = true then ((lattice_Below.f k bt302.1 a1).bind fun t313 => (moultlaw2_LatticeBounds.j0 k a0 a1 a2 bt300.1 bt302.1 (!t313))) else (moultlaw2_LatticeBounds.j0 k a0 a1 a2 bt300.1 bt302.1 true))) else (moultlaw2_LatticeBounds.j0 k a0 a1 a2 bt300.1 bt302.1 true))) else (moultlaw2_LatticeBounds.j0 k a0 a1 a2 bt300.1 bt302.1 true))) else (if bt300.1 = 0 then (if bt302.1 = 0 then ((lattice_Below.f k a0 a2).bind fun t304 => (if t304 = true then ((lattice_Below.f k a1 a2).bind fun t305 => (if t305 = true then (some false) else ((lattice_Below.f k a2 a0).bind fun t306 => (if t306 = true then ((lattice_Below.f k a2 a1).bind fun t307 => (some (!t307))) else (some (!false)))))) else ((lattice_Below.f k a2 a0).bind fun t308 => (if t308 = true then ((lattice_Below.f k a2 a1).bind fun t309 => (some (!t309))) else (some (!false)))))) else (some false)) else (some false)))))) else (some false))) = some r := h
  clear h
  replace H := Option.bind_eq_some_iff.mp H
  obtain ⟨t299, A40, H⟩ := H
  replace H : (if t299 = true then ((lattice_Join.f k a0 a1).bind fun bt300 => ((lattice_Meet.f k a0 a1).bind fun bt302 => (if (bt300.2 != bt302.2) = true then (some false) else (if bt300.2 = true then ((lattice_Below.f k a0 bt300.1).bind fun t310 => (if t310 = true then ((lattice_Below.f k a1 bt300.1).bind fun t311 => (if t311 = true then ((lattice_Below.f k bt302.1 a0).bind fun t312 => (if t312 = true then ((lattice_Below.f k bt302.1 a1).bind fun t313 => (moultlaw2_LatticeBounds.j0 k a0 a1 a2 bt300.1 bt302.1 (!t313))) else (moultlaw2_LatticeBounds.j0 k a0 a1 a2 bt300.1 bt302.1 true))) else (moultlaw2_LatticeBounds.j0 k a0 a1 a2 bt300.1 bt302.1 true))) else (moultlaw2_LatticeBounds.j0 k a0 a1 a2 bt300.1 bt302.1 true))) else (if bt300.1 = 0 then (if bt302.1 = 0 then ((lattice_Below.f k a0 a2).bind fun t304 => (if t304 = true then ((lattice_Below.f k a1 a2).bind fun t305 => (if t305 = true then (some false) else ((lattice_Below.f k a2 a0).bind fun t306 => (if t306 = true then ((lattice_Below.f k a2 a1).bind fun t307 => (some (!t307))) else (some (!false)))))) else ((lattice_Below.f k a2 a0).bind fun t308 => (if t308 = true then ((lattice_Below.f k a2 a1).bind fun t309 => (some (!t309))) else (some (!false)))))) else (some false)) else (some false)))))) else (some false)) = some r := H
  have A4 := Aside0.mk A40
  clear A40
  by_cases c5 : t299 = true
  · subst c5
    have H1 : ((lattice_Join.f k a0 a1).bind fun bt300 => ((lattice_Meet.f k a0 a1).bind fun bt302 => (if (bt300.2 != bt302.2) = true then (some false) else (if bt300.2 = true then ((lattice_Below.f k a0 bt300.1).bind fun t310 => (if t310 = true then ((lattice_Below.f k a1 bt300.1).bind fun t311 => (if t311 = true then ((lattice_Below.f k bt302.1 a0).bind fun t312 => (if t312 = true then ((lattice_Below.f k bt302.1 a1).bind fun t313 => (moultlaw2_LatticeBounds.j0 k a0 a1 a2 bt300.1 bt302.1 (!t313))) else (moultlaw2_LatticeBounds.j0 k a0 a1 a2 bt300.1 bt302.1 true))) else (moultlaw2_LatticeBounds.j0 k a0 a1 a2 bt300.1 bt302.1 true))) else (moultlaw2_LatticeBounds.j0 k a0 a1 a2 bt300.1 bt302.1 true))) else (if bt300.1 = 0 then (if bt302.1 = 0 then ((lattice_Below.f k a0 a2).bind fun t304 => (if t304 = true then ((lattice_Below.f k a1 a2).bind fun t305 => (if t305 = true then (some false) else ((lattice_Below.f k a2 a0).bind fun t306 => (if t306 = true then ((lattice_Below.f k a2 a1).bind fun t307 => (some (!t307))) else (some (!false)))))) else ((lattice_Below.f k a2 a0).bind fun t308 => (if t308 = true then ((lattice_Below.f k a2 a1).bind fun t309 => (some (!t309))) else (some (!false)))))) else (some false)) else (some false)))))) = some r := by rw [if_pos rfl] at H; exact H
    clear H
    have H := H1
    clear H1
    replace H := Option.bind_eq_some_iff.mp H
    obtain ⟨⟨t300, t301⟩, A60, H⟩ := H
    replace H : ((lattice_Meet.f k a0 a1).bind fun bt302 => (if (t301 != bt302.2) = true then (some false) else (if t301 = true then ((lattice_Below.f k a0 t300).bind fun t310 => (if t310 = true then ((lattice_Below.f k a1 t300).bind fun t311 => (if t311 = true then ((lattice_Below.f k bt302.1 a0).bind fun t312 => (if t312 = true then ((lattice_Below.f k bt302.1 a1).bind fun t313 => (moultlaw2_LatticeBounds.j0 k a0 a1 a2 t300 bt302.1 (!t313))) else (moultlaw2_LatticeBounds.j0 k a0 a1 a2 t300 bt302.1 true))) else (moultlaw2_LatticeBounds.j0 k a0 a1 a2 t300 bt302.1 true))) else (moultlaw2_LatticeBounds.j0 k a0 a1 a2 t300 bt302.1 true))) else (if t300 = 0 then (if bt302.1 = 0 then ((lattice_Below.f k a0 a2).bind fun t304 => (if t304 = true then ((lattice_Below.f k a1 a2).bind fun t305 => (if t305 = true then (some false) else ((lattice_Below.f k a2 a0).bind fun t306 => (if t306 = true then ((lattice_Below.f k a2 a1).bind fun t307 => (some (!t307))) else (some (!false)))))) else ((lattice_Below.f k a2 a0).bind fun t308 => (if t308 = true then ((lattice_Below.f k a2 a1).bind fun t309 => (some (!t309))) else (some (!false)))))) else (some false)) else (some false))))) = some r := H
    have A6 := Aside0.mk A60
    clear A60
    replace H := Option.bind_eq_some_iff.mp H
    obtain ⟨⟨t302, t303⟩, A70, H⟩ := H
    replace H : (if (t301 != t303) = true then (some false) else (if t301 = true then ((lattice_Below.f k a0 t300).bind fun t310 => (if t310 = true then ((lattice_Below.f k a1 t300).bind fun t311 => (if t311 = true then ((lattice_Below.f k t302 a0).bind fun t312 => (if t312 = true then ((lattice_Below.f k t302 a1).bind fun t313 => (moultlaw2_LatticeBounds.j0 k a0 a1 a2 t300 t302 (!t313))) else (moultlaw2_LatticeBounds.j0 k a0 a1 a2 t300 t302 true))) else (moultlaw2_LatticeBounds.j0 k a0 a1 a2 t300 t302 true))) else (moultlaw2_LatticeBounds.j0 k a0 a1 a2 t300 t302 true))) else (if t300 = 0 then (if t302 = 0 then ((lattice_Below.f k a0 a2).bind fun t304 => (if t304 = true then ((lattice_Below.f k a1 a2).bind fun t305 => (if t305 = true then (some false) else ((lattice_Below.f k a2 a0).bind fun t306 => (if t306 = true then ((lattice_Below.f k a2 a1).bind fun t307 => (some (!t307))) else (some (!false)))))) else ((lattice_Below.f k a2 a0).bind fun t308 => (if t308 = true then ((lattice_Below.f k a2 a1).bind fun t309 => (some (!t309))) else (some (!false)))))) else (some false)) else (some false)))) = some r := H
    have A7 := Aside0.mk A70
    clear A70
    by_cases c8 : (t301 != t303) = true
    · rw [if_pos c8] at H
      have c8b0 : (t301 != t303) = true := c8
      (try (have c8b1 : decide (t301 = t303) = false := by simpa using c8))
      (try (have c8b2 : (t301 == t303) = false := by simpa using c8))
      (try (have c8b3 : ¬ (t301 = t303) := by simpa using c8))
      clear c8
      obtain rfl := Option.some.inj H
      go_enter Try.func6, Try.ntmps6
      go_wp2_with (first | ((with_reducible refine gate_callee (f := 10) rfl ?_); refine goesL_ (some 14) rfl rfl Try.func10 (by kernel_rfl) rfl #[] rfl (by (try simp only [List.map_toArray, List.map_cons, List.map_nil]); first | done | rfl | (simp only [List.length_drop, List.length_take]; rfl)) ?_; (with_reducible refine (moultlaw2_shown.calls k  true _ A4.out).mono ?_); rintro e w9 ⟨rfl, hb⟩; refine ⟨_, rfl, ?_⟩; have n0_ := Aside0.mk (below_step (by repeat (first | (with_reducible first | exact HB.out | apply below_alloc | apply pw_below_drewN | apply below_drew1) | exact HB.out)) hb); clear HB; have HB := n0_; clear n0_; (try clear hb); (try clear hb2); (try clear hk); (try clear hi)) | ((with_reducible refine gate_callee (f := 11) rfl ?_); refine goesL_ (some 20) rfl rfl Try.func11 (by kernel_rfl) rfl #[.int .i64 a0, .int .i64 a1] rfl (by (try simp only [List.map_toArray, List.map_cons, List.map_nil]); first | done | rfl | (simp only [List.length_drop, List.length_take]; rfl)) ?_; (with_reducible refine (lattice_Join.calls k a0 a1 t300 t301 _ A6.out).mono ?_); rintro e w10 ⟨rfl, hb⟩; refine ⟨_, rfl, ?_⟩; have n0_ := Aside0.mk (below_step (by repeat (first | (with_reducible first | exact HB.out | apply below_alloc | apply pw_below_drewN | apply below_drew1) | exact HB.out)) hb); clear HB; have HB := n0_; clear n0_; (try clear hb); (try clear hb2); (try clear hk); (try clear hi)) | ((with_reducible refine gate_callee (f := 13) rfl ?_); refine goesL_ (some 26) rfl rfl Try.func13 (by kernel_rfl) rfl #[.int .i64 a0, .int .i64 a1] rfl (by (try simp only [List.map_toArray, List.map_cons, List.map_nil]); first | done | rfl | (simp only [List.length_drop, List.length_take]; rfl)) ?_; (with_reducible refine (lattice_Meet.calls k a0 a1 t302 t303 _ A7.out).mono ?_); rintro e w11 ⟨rfl, hb⟩; refine ⟨_, rfl, ?_⟩; have n0_ := Aside0.mk (below_step (by repeat (first | (with_reducible first | exact HB.out | apply below_alloc | apply pw_below_drewN | apply below_drew1) | exact HB.out)) hb); clear HB; have HB := n0_; clear n0_; (try clear hb); (try clear hb2); (try clear hk); (try clear hi)))
      go_ret
      exact ⟨by first | rfl | (simp [errW_none, errW_some] <;> rfl) | (simp [*, errW_none, errW_some] <;> rfl), by repeat (first | (with_reducible first | exact HB.out | apply below_alloc | apply pw_below_drewN | apply below_drew1) | exact HB.out)⟩
    · rw [if_neg c8] at H
      have c8b0 : (t301 != t303) = false := by simpa using c8
      (try (have c8b1 : decide (t301 = t303) = true := by simpa using c8))
      (try (have c8b2 : (t301 == t303) = true := by simpa using c8))
      clear c8
      by_cases c12 : t301 = true
      · subst c12
        have H1 : ((lattice_Below.f k a0 t300).bind fun t310 => (if t310 = true then ((lattice_Below.f k a1 t300).bind fun t311 => (if t311 = true then ((lattice_Below.f k t302 a0).bind fun t312 => (if t312 = true then ((lattice_Below.f k t302 a1).bind fun t313 => (moultlaw2_LatticeBounds.j0 k a0 a1 a2 t300 t302 (!t313))) else (moultlaw2_LatticeBounds.j0 k a0 a1 a2 t300 t302 true))) else (moultlaw2_LatticeBounds.j0 k a0 a1 a2 t300 t302 true))) else (moultlaw2_LatticeBounds.j0 k a0 a1 a2 t300 t302 true))) = some r := by rw [if_pos rfl] at H; exact H
        clear H
        have H := H1
        clear H1
        have HC13 := Aside0.mk H
        clear H
        go_enter Try.func6, Try.ntmps6
        go_upto_region 10 with (first | ((with_reducible refine gate_callee (f := 10) rfl ?_); refine goesL_ (some 14) rfl rfl Try.func10 (by kernel_rfl) rfl #[] rfl (by (try simp only [List.map_toArray, List.map_cons, List.map_nil]); first | done | rfl | (simp only [List.length_drop, List.length_take]; rfl)) ?_; (with_reducible refine (moultlaw2_shown.calls k  true _ A4.out).mono ?_); rintro e w14 ⟨rfl, hb⟩; refine ⟨_, rfl, ?_⟩; have n0_ := Aside0.mk (below_step (by repeat (first | (with_reducible first | exact HB.out | apply below_alloc | apply pw_below_drewN | apply below_drew1) | exact HB.out)) hb); clear HB; have HB := n0_; clear n0_; (try clear hb); (try clear hb2); (try clear hk); (try clear hi)) | ((with_reducible refine gate_callee (f := 11) rfl ?_); refine goesL_ (some 20) rfl rfl Try.func11 (by kernel_rfl) rfl #[.int .i64 a0, .int .i64 a1] rfl (by (try simp only [List.map_toArray, List.map_cons, List.map_nil]); first | done | rfl | (simp only [List.length_drop, List.length_take]; rfl)) ?_; (with_reducible refine (lattice_Join.calls k a0 a1 t300 true _ A6.out).mono ?_); rintro e w15 ⟨rfl, hb⟩; refine ⟨_, rfl, ?_⟩; have n0_ := Aside0.mk (below_step (by repeat (first | (with_reducible first | exact HB.out | apply below_alloc | apply pw_below_drewN | apply below_drew1) | exact HB.out)) hb); clear HB; have HB := n0_; clear n0_; (try clear hb); (try clear hb2); (try clear hk); (try clear hi)) | ((with_reducible refine gate_callee (f := 13) rfl ?_); refine goesL_ (some 26) rfl rfl Try.func13 (by kernel_rfl) rfl #[.int .i64 a0, .int .i64 a1] rfl (by (try simp only [List.map_toArray, List.map_cons, List.map_nil]); first | done | rfl | (simp only [List.length_drop, List.length_take]; rfl)) ?_; (with_reducible refine (lattice_Meet.calls k a0 a1 t302 t303 _ A7.out).mono ?_); rintro e w16 ⟨rfl, hb⟩; refine ⟨_, rfl, ?_⟩; have n0_ := Aside0.mk (below_step (by repeat (first | (with_reducible first | exact HB.out | apply below_alloc | apply pw_below_drewN | apply below_drew1) | exact HB.out)) hb); clear HB; have HB := n0_; clear n0_; (try clear hb); (try clear hb2); (try clear hk); (try clear hi)))
        (try simp only [Act.put, List.setIfInBounds_toArray, List.set_cons_zero, List.set_cons_succ])
        go_cut [83] (fun v83 wc => ∃ (kq : Nat) (x83_12 : Bool), v83 = .bool x83_12 ∧ Aside0 (moultlaw2_LatticeBounds.j0 kq a0 a1 a2 t300 t302 x83_12 = some r) ∧ Aside0 (kq ≤ k) ∧ Aside0 (Below w.heap.size w wc))
        case first =>
          have H := HC13.out
          clear HC13
          replace H := Option.bind_eq_some_iff.mp H
          obtain ⟨t310, A170, H⟩ := H
          replace H : (if t310 = true then ((lattice_Below.f k a1 t300).bind fun t311 => (if t311 = true then ((lattice_Below.f k t302 a0).bind fun t312 => (if t312 = true then ((lattice_Below.f k t302 a1).bind fun t313 => (moultlaw2_LatticeBounds.j0 k a0 a1 a2 t300 t302 (!t313))) else (moultlaw2_LatticeBounds.j0 k a0 a1 a2 t300 t302 true))) else (moultlaw2_LatticeBounds.j0 k a0 a1 a2 t300 t302 true))) else (moultlaw2_LatticeBounds.j0 k a0 a1 a2 t300 t302 true)) = some r := H
          have A17 := Aside0.mk A170
          clear A170
          by_cases c18 : t310 = true
          · subst c18
            have H1 : ((lattice_Below.f k a1 t300).bind fun t311 => (if t311 = true then ((lattice_Below.f k t302 a0).bind fun t312 => (if t312 = true then ((lattice_Below.f k t302 a1).bind fun t313 => (moultlaw2_LatticeBounds.j0 k a0 a1 a2 t300 t302 (!t313))) else (moultlaw2_LatticeBounds.j0 k a0 a1 a2 t300 t302 true))) else (moultlaw2_LatticeBounds.j0 k a0 a1 a2 t300 t302 true))) = some r := by rw [if_pos rfl] at H; exact H
            clear H
            have H := H1
            clear H1
            replace H := Option.bind_eq_some_iff.mp H
            obtain ⟨t311, A190, H⟩ := H
            replace H : (if t311 = true then ((lattice_Below.f k t302 a0).bind fun t312 => (if t312 = true then ((lattice_Below.f k t302 a1).bind fun t313 => (moultlaw2_LatticeBounds.j0 k a0 a1 a2 t300 t302 (!t313))) else (moultlaw2_LatticeBounds.j0 k a0 a1 a2 t300 t302 true))) else (moultlaw2_LatticeBounds.j0 k a0 a1 a2 t300 t302 true)) = some r := H
            have A19 := Aside0.mk A190
            clear A190
            by_cases c20 : t311 = true
            · subst c20
              have H1 : ((lattice_Below.f k t302 a0).bind fun t312 => (if t312 = true then ((lattice_Below.f k t302 a1).bind fun t313 => (moultlaw2_LatticeBounds.j0 k a0 a1 a2 t300 t302 (!t313))) else (moultlaw2_LatticeBounds.j0 k a0 a1 a2 t300 t302 true))) = some r := by rw [if_pos rfl] at H; exact H
              clear H
              have H := H1
              clear H1
              replace H := Option.bind_eq_some_iff.mp H
              obtain ⟨t312, A210, H⟩ := H
              replace H : (if t312 = true then ((lattice_Below.f k t302 a1).bind fun t313 => (moultlaw2_LatticeBounds.j0 k a0 a1 a2 t300 t302 (!t313))) else (moultlaw2_LatticeBounds.j0 k a0 a1 a2 t300 t302 true)) = some r := H
              have A21 := Aside0.mk A210
              clear A210
              by_cases c22 : t312 = true
              · subst c22
                have H1 : ((lattice_Below.f k t302 a1).bind fun t313 => (moultlaw2_LatticeBounds.j0 k a0 a1 a2 t300 t302 (!t313))) = some r := by rw [if_pos rfl] at H; exact H
                clear H
                have H := H1
                clear H1
                replace H := Option.bind_eq_some_iff.mp H
                obtain ⟨t313, A230, H⟩ := H
                replace H : (moultlaw2_LatticeBounds.j0 k a0 a1 a2 t300 t302 (!t313)) = some r := H
                have A23 := Aside0.mk A230
                clear A230
                have H' := Aside0.mk H
                clear H
                go_wp2_with (first | ((with_reducible refine gate_callee (f := 15) rfl ?_); refine goesL_ (some 64) rfl rfl Try.func15 (by kernel_rfl) rfl #[.int .i64 a0, .int .i64 t300] rfl (by (try simp only [List.map_toArray, List.map_cons, List.map_nil]); first | done | rfl | (simp only [List.length_drop, List.length_take]; rfl)) ?_; (with_reducible refine (lattice_Below.calls k a0 t300 true _ A17.out).mono ?_); rintro e w24 ⟨rfl, hb⟩; refine ⟨_, rfl, ?_⟩; have n0_ := Aside0.mk (below_step (by repeat (first | (with_reducible first | exact HB.out | apply below_alloc | apply pw_below_drewN | apply below_drew1) | exact HB.out)) hb); clear HB; have HB := n0_; clear n0_; (try clear hb); (try clear hb2); (try clear hk); (try clear hi)) | (go_at_call 15; (with_reducible refine (lattice_Below.calls k a1 t300 true _ A19.out).mono ?_); rintro e w25 ⟨rfl, hb⟩; have n0_ := Aside0.mk (below_step (by repeat (first | (with_reducible first | exact HB.out | apply below_alloc | apply pw_below_drewN | apply below_drew1) | exact HB.out)) hb); clear HB; have HB := n0_; clear n0_; (try clear hb); (try clear hb2); (try clear hk); (try clear hi)) | (go_at_call 15; (with_reducible refine (lattice_Below.calls k t302 a0 true _ A21.out).mono ?_); rintro e w26 ⟨rfl, hb⟩; have n0_ := Aside0.mk (below_step (by repeat (first | (with_reducible first | exact HB.out | apply below_alloc | apply pw_below_drewN | apply below_drew1) | exact HB.out)) hb); clear HB; have HB := n0_; clear n0_; (try clear hb); (try clear hb2); (try clear hk); (try clear hi)) | (go_at_call 15; (with_reducible refine (lattice_Below.calls k t302 a1 t313 _ A23.out).mono ?_); rintro e w27 ⟨rfl, hb⟩; have n0_ := Aside0.mk (below_step (by repeat (first | (with_reducible first | exact HB.out | apply below_alloc | apply pw_below_drewN | apply below_drew1) | exact HB.out)) hb); clear HB; have HB := n0_; clear n0_; (try clear hb); (try clear hb2); (try clear hk); (try clear hi)))
                go_meet
                case rel => exact ⟨_, (!t313), (by first | rfl | (simp; done) | (simp [*]; done)), H', ⟨by first | omega | exact Nat.le_refl _⟩, ⟨by repeat (first | (with_reducible first | exact HB.out | apply below_alloc | apply pw_below_drewN | apply below_drew1) | exact HB.out)⟩⟩
              · replace c22 := Bool.eq_false_iff.mpr c22
                subst c22
                have H1 : (moultlaw2_LatticeBounds.j0 k a0 a1 a2 t300 t302 true) = some r := by rw [if_neg (show ¬ (false = true) by decide)] at H; exact H
                clear H
                have H := H1
                clear H1
                have H' := Aside0.mk H
                clear H
                go_wp2_with (first | ((with_reducible refine gate_callee (f := 15) rfl ?_); refine goesL_ (some 64) rfl rfl Try.func15 (by kernel_rfl) rfl #[.int .i64 a0, .int .i64 t300] rfl (by (try simp only [List.map_toArray, List.map_cons, List.map_nil]); first | done | rfl | (simp only [List.length_drop, List.length_take]; rfl)) ?_; (with_reducible refine (lattice_Below.calls k a0 t300 true _ A17.out).mono ?_); rintro e w28 ⟨rfl, hb⟩; refine ⟨_, rfl, ?_⟩; have n0_ := Aside0.mk (below_step (by repeat (first | (with_reducible first | exact HB.out | apply below_alloc | apply pw_below_drewN | apply below_drew1) | exact HB.out)) hb); clear HB; have HB := n0_; clear n0_; (try clear hb); (try clear hb2); (try clear hk); (try clear hi)) | (go_at_call 15; (with_reducible refine (lattice_Below.calls k a1 t300 true _ A19.out).mono ?_); rintro e w29 ⟨rfl, hb⟩; have n0_ := Aside0.mk (below_step (by repeat (first | (with_reducible first | exact HB.out | apply below_alloc | apply pw_below_drewN | apply below_drew1) | exact HB.out)) hb); clear HB; have HB := n0_; clear n0_; (try clear hb); (try clear hb2); (try clear hk); (try clear hi)) | (go_at_call 15; (with_reducible refine (lattice_Below.calls k t302 a0 false _ A21.out).mono ?_); rintro e w30 ⟨rfl, hb⟩; have n0_ := Aside0.mk (below_step (by repeat (first | (with_reducible first | exact HB.out | apply below_alloc | apply pw_below_drewN | apply below_drew1) | exact HB.out)) hb); clear HB; have HB := n0_; clear n0_; (try clear hb); (try clear hb2); (try clear hk); (try clear hi)))
                go_meet
                case rel => exact ⟨_, (true), (by first | rfl | (simp; done) | (simp [*]; done)), H', ⟨by first | omega | exact Nat.le_refl _⟩, ⟨by repeat (first | (with_reducible first | exact HB.out | apply below_alloc | apply pw_below_drewN | apply below_drew1) | exact HB.out)⟩⟩
            · replace c20 := Bool.eq_false_iff.mpr c20
              subst c20
              have H1 : (moultlaw2_LatticeBounds.j0 k a0 a1 a2 t300 t302 true) = some r := by rw [if_neg (show ¬ (false = true) by decide)] at H; exact H
              clear H
              have H := H1
              clear H1
              have H' := Aside0.mk H
              clear H
              go_wp2_with (first | ((with_reducible refine gate_callee (f := 15) rfl ?_); refine goesL_ (some 64) rfl rfl Try.func15 (by kernel_rfl) rfl #[.int .i64 a0, .int .i64 t300] rfl (by (try simp only [List.map_toArray, List.map_cons, List.map_nil]); first | done | rfl | (simp only [List.length_drop, List.length_take]; rfl)) ?_; (with_reducible refine (lattice_Below.calls k a0 t300 true _ A17.out).mono ?_); rintro e w31 ⟨rfl, hb⟩; refine ⟨_, rfl, ?_⟩; have n0_ := Aside0.mk (below_step (by repeat (first | (with_reducible first | exact HB.out | apply below_alloc | apply pw_below_drewN | apply below_drew1) | exact HB.out)) hb); clear HB; have HB := n0_; clear n0_; (try clear hb); (try clear hb2); (try clear hk); (try clear hi)) | (go_at_call 15; (with_reducible refine (lattice_Below.calls k a1 t300 false _ A19.out).mono ?_); rintro e w32 ⟨rfl, hb⟩; have n0_ := Aside0.mk (below_step (by repeat (first | (with_reducible first | exact HB.out | apply below_alloc | apply pw_below_drewN | apply below_drew1) | exact HB.out)) hb); clear HB; have HB := n0_; clear n0_; (try clear hb); (try clear hb2); (try clear hk); (try clear hi)))
              go_meet
              case rel => exact ⟨_, (true), (by first | rfl | (simp; done) | (simp [*]; done)), H', ⟨by first | omega | exact Nat.le_refl _⟩, ⟨by repeat (first | (with_reducible first | exact HB.out | apply below_alloc | apply pw_below_drewN | apply below_drew1) | exact HB.out)⟩⟩
          · replace c18 := Bool.eq_false_iff.mpr c18
            subst c18
            have H1 : (moultlaw2_LatticeBounds.j0 k a0 a1 a2 t300 t302 true) = some r := by rw [if_neg (show ¬ (false = true) by decide)] at H; exact H
            clear H
            have H := H1
            clear H1
            have H' := Aside0.mk H
            clear H
            go_wp2_with (first | ((with_reducible refine gate_callee (f := 15) rfl ?_); refine goesL_ (some 64) rfl rfl Try.func15 (by kernel_rfl) rfl #[.int .i64 a0, .int .i64 t300] rfl (by (try simp only [List.map_toArray, List.map_cons, List.map_nil]); first | done | rfl | (simp only [List.length_drop, List.length_take]; rfl)) ?_; (with_reducible refine (lattice_Below.calls k a0 t300 false _ A17.out).mono ?_); rintro e w33 ⟨rfl, hb⟩; refine ⟨_, rfl, ?_⟩; have n0_ := Aside0.mk (below_step (by repeat (first | (with_reducible first | exact HB.out | apply below_alloc | apply pw_below_drewN | apply below_drew1) | exact HB.out)) hb); clear HB; have HB := n0_; clear n0_; (try clear hb); (try clear hb2); (try clear hk); (try clear hi)))
            go_meet
            case rel => exact ⟨_, (true), (by first | rfl | (simp; done) | (simp [*]; done)), H', ⟨by first | omega | exact Nat.le_refl _⟩, ⟨by repeat (first | (with_reducible first | exact HB.out | apply below_alloc | apply pw_below_drewN | apply below_drew1) | exact HB.out)⟩⟩
        case rest =>
          clear HC13
          try clear c1
          try clear c2
          try clear p2
          try clear c5
          try clear c6
          try clear c8
          try clear c8b0
          try clear c8b1
          try clear c8b2
          try clear c10
          try clear c11
          try clear c12
          try clear c13
          try clear c15
          try clear c18
          try clear c20
          try clear c22
          obtain ⟨kq, x83_12, rfl, HA, HJ12, HB⟩ := hcut
          cases kq with
          | zero => exact absurd HA.out (by simp [moultlaw2_LatticeBounds.j0])
          | succ kj12 =>
            have H := HA.out
            clear HA
            simp only [moultlaw2_LatticeBounds.j0] at H
            by_cases c34 : x83_12 = true
            · subst c34
              have H1 : (some false) = some r := by rw [if_pos rfl] at H; exact H
              clear H
              have H := H1
              clear H1
              obtain rfl := Option.some.inj H
              go_wp2
              go_ret
              exact ⟨by first | rfl | (simp [errW_none, errW_some] <;> rfl) | (simp [*, errW_none, errW_some] <;> rfl), by repeat (first | (with_reducible first | exact HB.out | apply below_alloc | apply pw_below_drewN | apply below_drew1) | exact HB.out)⟩
            · replace c34 := Bool.eq_false_iff.mpr c34
              subst c34
              have H1 : ((lattice_Below.f kj12 a0 a2).bind fun t314 => (if t314 = true then ((lattice_Below.f kj12 a1 a2).bind fun t315 => (moultlaw2_LatticeBounds.j1 kj12 a0 a1 a2 t300 t302 t315)) else (moultlaw2_LatticeBounds.j1 kj12 a0 a1 a2 t300 t302 false))) = some r := by rw [if_neg (show ¬ (false = true) by decide)] at H; exact H
              clear H
              have H := H1
              clear H1
              have HC35 := Aside0.mk H
              clear H
              go_upto_region 12 with (fail)
              go_cut [12] (fun v12 wc => ∃ (kq : Nat) (x12_34 : Bool), v12 = .bool x12_34 ∧ Aside0 (moultlaw2_LatticeBounds.j1 kq a0 a1 a2 t300 t302 x12_34 = some r) ∧ Aside0 (kq ≤ kj12) ∧ Aside0 (Below w.heap.size w wc))
              case first =>
                have H := HC35.out
                clear HC35
                replace H := Option.bind_eq_some_iff.mp H
                obtain ⟨t314, A360, H⟩ := H
                replace H : (if t314 = true then ((lattice_Below.f kj12 a1 a2).bind fun t315 => (moultlaw2_LatticeBounds.j1 kj12 a0 a1 a2 t300 t302 t315)) else (moultlaw2_LatticeBounds.j1 kj12 a0 a1 a2 t300 t302 false)) = some r := H
                have A36 := Aside0.mk A360
                clear A360
                by_cases c37 : t314 = true
                · subst c37
                  have H1 : ((lattice_Below.f kj12 a1 a2).bind fun t315 => (moultlaw2_LatticeBounds.j1 kj12 a0 a1 a2 t300 t302 t315)) = some r := by rw [if_pos rfl] at H; exact H
                  clear H
                  have H := H1
                  clear H1
                  replace H := Option.bind_eq_some_iff.mp H
                  obtain ⟨t315, A380, H⟩ := H
                  replace H : (moultlaw2_LatticeBounds.j1 kj12 a0 a1 a2 t300 t302 t315) = some r := H
                  have A38 := Aside0.mk A380
                  clear A380
                  have H' := Aside0.mk H
                  clear H
                  go_wp2_with (first | ((with_reducible refine gate_callee (f := 15) rfl ?_); refine goesL_ (some 86) rfl rfl Try.func15 (by kernel_rfl) rfl #[.int .i64 a0, .int .i64 a2] rfl (by (try simp only [List.map_toArray, List.map_cons, List.map_nil]); first | done | rfl | (simp only [List.length_drop, List.length_take]; rfl)) ?_; (with_reducible refine (lattice_Below.calls kj12 a0 a2 true _ A36.out).mono ?_); rintro e w39 ⟨rfl, hb⟩; refine ⟨_, rfl, ?_⟩; have n0_ := Aside0.mk (below_step (by repeat (first | (with_reducible first | exact HB.out | apply below_alloc | apply pw_below_drewN | apply below_drew1) | exact HB.out)) hb); clear HB; have HB := n0_; clear n0_; (try clear hb); (try clear hb2); (try clear hk); (try clear hi)) | (go_at_call 15; (with_reducible refine (lattice_Below.calls kj12 a1 a2 t315 _ A38.out).mono ?_); rintro e w40 ⟨rfl, hb⟩; have n0_ := Aside0.mk (below_step (by repeat (first | (with_reducible first | exact HB.out | apply below_alloc | apply pw_below_drewN | apply below_drew1) | exact HB.out)) hb); clear HB; have HB := n0_; clear n0_; (try clear hb); (try clear hb2); (try clear hk); (try clear hi)))
                  go_meet
                  case rel => exact ⟨_, (t315), (by first | rfl | (simp; done) | (simp [*]; done)), H', ⟨by have := HJ12.out; first | omega | exact Nat.le_refl _⟩, ⟨by repeat (first | (with_reducible first | exact HB.out | apply below_alloc | apply pw_below_drewN | apply below_drew1) | exact HB.out)⟩⟩
                · replace c37 := Bool.eq_false_iff.mpr c37
                  subst c37
                  have H1 : (moultlaw2_LatticeBounds.j1 kj12 a0 a1 a2 t300 t302 false) = some r := by rw [if_neg (show ¬ (false = true) by decide)] at H; exact H
                  clear H
                  have H := H1
                  clear H1
                  have H' := Aside0.mk H
                  clear H
                  go_wp2_with (first | ((with_reducible refine gate_callee (f := 15) rfl ?_); refine goesL_ (some 86) rfl rfl Try.func15 (by kernel_rfl) rfl #[.int .i64 a0, .int .i64 a2] rfl (by (try simp only [List.map_toArray, List.map_cons, List.map_nil]); first | done | rfl | (simp only [List.length_drop, List.length_take]; rfl)) ?_; (with_reducible refine (lattice_Below.calls kj12 a0 a2 false _ A36.out).mono ?_); rintro e w41 ⟨rfl, hb⟩; refine ⟨_, rfl, ?_⟩; have n0_ := Aside0.mk (below_step (by repeat (first | (with_reducible first | exact HB.out | apply below_alloc | apply pw_below_drewN | apply below_drew1) | exact HB.out)) hb); clear HB; have HB := n0_; clear n0_; (try clear hb); (try clear hb2); (try clear hk); (try clear hi)))
                  go_meet
                  case rel => exact ⟨_, (false), (by first | rfl | (simp; done) | (simp [*]; done)), H', ⟨by have := HJ12.out; first | omega | exact Nat.le_refl _⟩, ⟨by repeat (first | (with_reducible first | exact HB.out | apply below_alloc | apply pw_below_drewN | apply below_drew1) | exact HB.out)⟩⟩
              case rest =>
                clear HC35
                try clear c1
                try clear c2
                try clear p2
                try clear c3
                try clear c5
                try clear c6
                try clear c8
                try clear c8b0
                try clear c8b1
                try clear c8b2
                try clear c10
                try clear c11
                try clear c12
                try clear c13
                try clear c15
                try clear c18
                try clear c20
                try clear c22
                try clear c34
                try clear c37
                try clear p2
                obtain ⟨kq, x12_34, rfl, HA, HJ34, HB⟩ := hcut
                cases kq with
                | zero => exact absurd HA.out (by simp [moultlaw2_LatticeBounds.j1])
                | succ kj34 =>
                  have H := HA.out
                  clear HA
                  simp only [moultlaw2_LatticeBounds.j1] at H
                  replace H := Option.bind_eq_some_iff.mp H
                  obtain ⟨t316, A420, H⟩ := H
                  replace H : (if t316 = true then ((lattice_Below.f kj34 a2 a1).bind fun t317 => ((lattice_Below.f kj34 t300 a2).bind fun t318 => (if (x12_34 == t318) = true then ((lattice_Below.f kj34 a2 t302).bind fun t319 => (some (t317 == t319))) else (some false)))) else ((lattice_Below.f kj34 t300 a2).bind fun t320 => (if (x12_34 == t320) = true then ((lattice_Below.f kj34 a2 t302).bind fun t321 => (some (false == t321))) else (some false)))) = some r := H
                  have A42 := Aside0.mk A420
                  clear A420
                  by_cases c43 : t316 = true
                  · subst c43
                    have H1 : ((lattice_Below.f kj34 a2 a1).bind fun t317 => ((lattice_Below.f kj34 t300 a2).bind fun t318 => (if (x12_34 == t318) = true then ((lattice_Below.f kj34 a2 t302).bind fun t319 => (some (t317 == t319))) else (some false)))) = some r := by rw [if_pos rfl] at H; exact H
                    clear H
                    have H := H1
                    clear H1
                    replace H := Option.bind_eq_some_iff.mp H
                    obtain ⟨t317, A440, H⟩ := H
                    replace H : ((lattice_Below.f kj34 t300 a2).bind fun t318 => (if (x12_34 == t318) = true then ((lattice_Below.f kj34 a2 t302).bind fun t319 => (some (t317 == t319))) else (some false))) = some r := H
                    have A44 := Aside0.mk A440
                    clear A440
                    replace H := Option.bind_eq_some_iff.mp H
                    obtain ⟨t318, A450, H⟩ := H
                    replace H : (if (x12_34 == t318) = true then ((lattice_Below.f kj34 a2 t302).bind fun t319 => (some (t317 == t319))) else (some false)) = some r := H
                    have A45 := Aside0.mk A450
                    clear A450
                    by_cases c46 : (x12_34 == t318) = true
                    · rw [if_pos c46] at H
                      have c46b0 : (x12_34 == t318) = true := c46
                      (try (have c46b1 : decide (x12_34 = t318) = true := by simpa using c46))
                      (try (have c46b2 : (x12_34 == t318) = true := by simpa using c46))
                      clear c46
                      replace H := Option.bind_eq_some_iff.mp H
                      obtain ⟨t319, A470, H⟩ := H
                      replace H : (some (t317 == t319)) = some r := H
                      have A47 := Aside0.mk A470
                      clear A470
                      obtain rfl := Option.some.inj H
                      go_wp2_with (first | ((with_reducible refine gate_callee (f := 15) rfl ?_); refine goesL_ (some 94) rfl rfl Try.func15 (by kernel_rfl) rfl #[.int .i64 a2, .int .i64 a0] rfl (by (try simp only [List.map_toArray, List.map_cons, List.map_nil]); first | done | rfl | (simp only [List.length_drop, List.length_take]; rfl)) ?_; (with_reducible refine (lattice_Below.calls kj34 a2 a0 true _ A42.out).mono ?_); rintro e w48 ⟨rfl, hb⟩; refine ⟨_, rfl, ?_⟩; have n0_ := Aside0.mk (below_step (by repeat (first | (with_reducible first | exact HB.out | apply below_alloc | apply pw_below_drewN | apply below_drew1) | exact HB.out)) hb); clear HB; have HB := n0_; clear n0_; (try clear hb); (try clear hb2); (try clear hk); (try clear hi)) | (go_at_call 15; (with_reducible refine (lattice_Below.calls kj34 a2 a1 t317 _ A44.out).mono ?_); rintro e w49 ⟨rfl, hb⟩; have n0_ := Aside0.mk (below_step (by repeat (first | (with_reducible first | exact HB.out | apply below_alloc | apply pw_below_drewN | apply below_drew1) | exact HB.out)) hb); clear HB; have HB := n0_; clear n0_; (try clear hb); (try clear hb2); (try clear hk); (try clear hi)) | ((with_reducible refine gate_callee (f := 15) rfl ?_); refine goesL_ (some 103) rfl rfl Try.func15 (by kernel_rfl) rfl #[.int .i64 t300, .int .i64 a2] rfl (by (try simp only [List.map_toArray, List.map_cons, List.map_nil]); first | done | rfl | (simp only [List.length_drop, List.length_take]; rfl)) ?_; (with_reducible refine (lattice_Below.calls kj34 t300 a2 t318 _ A45.out).mono ?_); rintro e w50 ⟨rfl, hb⟩; refine ⟨_, rfl, ?_⟩; have n0_ := Aside0.mk (below_step (by repeat (first | (with_reducible first | exact HB.out | apply below_alloc | apply pw_below_drewN | apply below_drew1) | exact HB.out)) hb); clear HB; have HB := n0_; clear n0_; (try clear hb); (try clear hb2); (try clear hk); (try clear hi)) | (go_at_call 15; (with_reducible refine (lattice_Below.calls kj34 a2 t302 t319 _ A47.out).mono ?_); rintro e w51 ⟨rfl, hb⟩; have n0_ := Aside0.mk (below_step (by repeat (first | (with_reducible first | exact HB.out | apply below_alloc | apply pw_below_drewN | apply below_drew1) | exact HB.out)) hb); clear HB; have HB := n0_; clear n0_; (try clear hb); (try clear hb2); (try clear hk); (try clear hi)))
                      go_ret
                      exact ⟨by first | rfl | (simp [errW_none, errW_some] <;> rfl) | (simp [*, errW_none, errW_some] <;> rfl), by repeat (first | (with_reducible first | exact HB.out | apply below_alloc | apply pw_below_drewN | apply below_drew1) | exact HB.out)⟩
                    · rw [if_neg c46] at H
                      have c46b0 : (x12_34 == t318) = false := by simpa using c46
                      (try (have c46b1 : decide (x12_34 = t318) = false := by simpa using c46))
                      (try (have c46b2 : (x12_34 == t318) = false := by simpa using c46))
                      (try (have c46b3 : ¬ (x12_34 = t318) := by simpa using c46))
                      clear c46
                      obtain rfl := Option.some.inj H
                      go_wp2_with (first | ((with_reducible refine gate_callee (f := 15) rfl ?_); refine goesL_ (some 94) rfl rfl Try.func15 (by kernel_rfl) rfl #[.int .i64 a2, .int .i64 a0] rfl (by (try simp only [List.map_toArray, List.map_cons, List.map_nil]); first | done | rfl | (simp only [List.length_drop, List.length_take]; rfl)) ?_; (with_reducible refine (lattice_Below.calls kj34 a2 a0 true _ A42.out).mono ?_); rintro e w52 ⟨rfl, hb⟩; refine ⟨_, rfl, ?_⟩; have n0_ := Aside0.mk (below_step (by repeat (first | (with_reducible first | exact HB.out | apply below_alloc | apply pw_below_drewN | apply below_drew1) | exact HB.out)) hb); clear HB; have HB := n0_; clear n0_; (try clear hb); (try clear hb2); (try clear hk); (try clear hi)) | (go_at_call 15; (with_reducible refine (lattice_Below.calls kj34 a2 a1 t317 _ A44.out).mono ?_); rintro e w53 ⟨rfl, hb⟩; have n0_ := Aside0.mk (below_step (by repeat (first | (with_reducible first | exact HB.out | apply below_alloc | apply pw_below_drewN | apply below_drew1) | exact HB.out)) hb); clear HB; have HB := n0_; clear n0_; (try clear hb); (try clear hb2); (try clear hk); (try clear hi)) | ((with_reducible refine gate_callee (f := 15) rfl ?_); refine goesL_ (some 103) rfl rfl Try.func15 (by kernel_rfl) rfl #[.int .i64 t300, .int .i64 a2] rfl (by (try simp only [List.map_toArray, List.map_cons, List.map_nil]); first | done | rfl | (simp only [List.length_drop, List.length_take]; rfl)) ?_; (with_reducible refine (lattice_Below.calls kj34 t300 a2 t318 _ A45.out).mono ?_); rintro e w54 ⟨rfl, hb⟩; refine ⟨_, rfl, ?_⟩; have n0_ := Aside0.mk (below_step (by repeat (first | (with_reducible first | exact HB.out | apply below_alloc | apply pw_below_drewN | apply below_drew1) | exact HB.out)) hb); clear HB; have HB := n0_; clear n0_; (try clear hb); (try clear hb2); (try clear hk); (try clear hi)))
                      go_ret
                      exact ⟨by first | rfl | (simp [errW_none, errW_some] <;> rfl) | (simp [*, errW_none, errW_some] <;> rfl), by repeat (first | (with_reducible first | exact HB.out | apply below_alloc | apply pw_below_drewN | apply below_drew1) | exact HB.out)⟩
                  · replace c43 := Bool.eq_false_iff.mpr c43
                    subst c43
                    have H1 : ((lattice_Below.f kj34 t300 a2).bind fun t320 => (if (x12_34 == t320) = true then ((lattice_Below.f kj34 a2 t302).bind fun t321 => (some (false == t321))) else (some false))) = some r := by rw [if_neg (show ¬ (false = true) by decide)] at H; exact H
                    clear H
                    have H := H1
                    clear H1
                    replace H := Option.bind_eq_some_iff.mp H
                    obtain ⟨t320, A550, H⟩ := H
                    replace H : (if (x12_34 == t320) = true then ((lattice_Below.f kj34 a2 t302).bind fun t321 => (some (false == t321))) else (some false)) = some r := H
                    have A55 := Aside0.mk A550
                    clear A550
                    by_cases c56 : (x12_34 == t320) = true
                    · rw [if_pos c56] at H
                      have c56b0 : (x12_34 == t320) = true := c56
                      (try (have c56b1 : decide (x12_34 = t320) = true := by simpa using c56))
                      (try (have c56b2 : (x12_34 == t320) = true := by simpa using c56))
                      clear c56
                      replace H := Option.bind_eq_some_iff.mp H
                      obtain ⟨t321, A570, H⟩ := H
                      replace H : (some (false == t321)) = some r := H
                      have A57 := Aside0.mk A570
                      clear A570
                      obtain rfl := Option.some.inj H
                      go_wp2_with (first | ((with_reducible refine gate_callee (f := 15) rfl ?_); refine goesL_ (some 94) rfl rfl Try.func15 (by kernel_rfl) rfl #[.int .i64 a2, .int .i64 a0] rfl (by (try simp only [List.map_toArray, List.map_cons, List.map_nil]); first | done | rfl | (simp only [List.length_drop, List.length_take]; rfl)) ?_; (with_reducible refine (lattice_Below.calls kj34 a2 a0 false _ A42.out).mono ?_); rintro e w58 ⟨rfl, hb⟩; refine ⟨_, rfl, ?_⟩; have n0_ := Aside0.mk (below_step (by repeat (first | (with_reducible first | exact HB.out | apply below_alloc | apply pw_below_drewN | apply below_drew1) | exact HB.out)) hb); clear HB; have HB := n0_; clear n0_; (try clear hb); (try clear hb2); (try clear hk); (try clear hi)) | ((with_reducible refine gate_callee (f := 15) rfl ?_); refine goesL_ (some 103) rfl rfl Try.func15 (by kernel_rfl) rfl #[.int .i64 t300, .int .i64 a2] rfl (by (try simp only [List.map_toArray, List.map_cons, List.map_nil]); first | done | rfl | (simp only [List.length_drop, List.length_take]; rfl)) ?_; (with_reducible refine (lattice_Below.calls kj34 t300 a2 t320 _ A55.out).mono ?_); rintro e w59 ⟨rfl, hb⟩; refine ⟨_, rfl, ?_⟩; have n0_ := Aside0.mk (below_step (by repeat (first | (with_reducible first | exact HB.out | apply below_alloc | apply pw_below_drewN | apply below_drew1) | exact HB.out)) hb); clear HB; have HB := n0_; clear n0_; (try clear hb); (try clear hb2); (try clear hk); (try clear hi)) | (go_at_call 15; (with_reducible refine (lattice_Below.calls kj34 a2 t302 t321 _ A57.out).mono ?_); rintro e w60 ⟨rfl, hb⟩; have n0_ := Aside0.mk (below_step (by repeat (first | (with_reducible first | exact HB.out | apply below_alloc | apply pw_below_drewN | apply below_drew1) | exact HB.out)) hb); clear HB; have HB := n0_; clear n0_; (try clear hb); (try clear hb2); (try clear hk); (try clear hi)))
                      go_ret
                      exact ⟨by first | rfl | (simp [errW_none, errW_some] <;> rfl) | (simp [*, errW_none, errW_some] <;> rfl), by repeat (first | (with_reducible first | exact HB.out | apply below_alloc | apply pw_below_drewN | apply below_drew1) | exact HB.out)⟩
                    · rw [if_neg c56] at H
                      have c56b0 : (x12_34 == t320) = false := by simpa using c56
                      (try (have c56b1 : decide (x12_34 = t320) = false := by simpa using c56))
                      (try (have c56b2 : (x12_34 == t320) = false := by simpa using c56))
                      (try (have c56b3 : ¬ (x12_34 = t320) := by simpa using c56))
                      clear c56
                      obtain rfl := Option.some.inj H
                      go_wp2_with (first | ((with_reducible refine gate_callee (f := 15) rfl ?_); refine goesL_ (some 94) rfl rfl Try.func15 (by kernel_rfl) rfl #[.int .i64 a2, .int .i64 a0] rfl (by (try simp only [List.map_toArray, List.map_cons, List.map_nil]); first | done | rfl | (simp only [List.length_drop, List.length_take]; rfl)) ?_; (with_reducible refine (lattice_Below.calls kj34 a2 a0 false _ A42.out).mono ?_); rintro e w61 ⟨rfl, hb⟩; refine ⟨_, rfl, ?_⟩; have n0_ := Aside0.mk (below_step (by repeat (first | (with_reducible first | exact HB.out | apply below_alloc | apply pw_below_drewN | apply below_drew1) | exact HB.out)) hb); clear HB; have HB := n0_; clear n0_; (try clear hb); (try clear hb2); (try clear hk); (try clear hi)) | ((with_reducible refine gate_callee (f := 15) rfl ?_); refine goesL_ (some 103) rfl rfl Try.func15 (by kernel_rfl) rfl #[.int .i64 t300, .int .i64 a2] rfl (by (try simp only [List.map_toArray, List.map_cons, List.map_nil]); first | done | rfl | (simp only [List.length_drop, List.length_take]; rfl)) ?_; (with_reducible refine (lattice_Below.calls kj34 t300 a2 t320 _ A55.out).mono ?_); rintro e w62 ⟨rfl, hb⟩; refine ⟨_, rfl, ?_⟩; have n0_ := Aside0.mk (below_step (by repeat (first | (with_reducible first | exact HB.out | apply below_alloc | apply pw_below_drewN | apply below_drew1) | exact HB.out)) hb); clear HB; have HB := n0_; clear n0_; (try clear hb); (try clear hb2); (try clear hk); (try clear hi)))
                      go_ret
                      exact ⟨by first | rfl | (simp [errW_none, errW_some] <;> rfl) | (simp [*, errW_none, errW_some] <;> rfl), by repeat (first | (with_reducible first | exact HB.out | apply below_alloc | apply pw_below_drewN | apply below_drew1) | exact HB.out)⟩
      · replace c12 := Bool.eq_false_iff.mpr c12
        subst c12
        have H1 : (if t300 = 0 then (if t302 = 0 then ((lattice_Below.f k a0 a2).bind fun t304 => (if t304 = true then ((lattice_Below.f k a1 a2).bind fun t305 => (if t305 = true then (some false) else ((lattice_Below.f k a2 a0).bind fun t306 => (if t306 = true then ((lattice_Below.f k a2 a1).bind fun t307 => (some (!t307))) else (some (!false)))))) else ((lattice_Below.f k a2 a0).bind fun t308 => (if t308 = true then ((lattice_Below.f k a2 a1).bind fun t309 => (some (!t309))) else (some (!false)))))) else (some false)) else (some false)) = some r := by rw [if_neg (show ¬ (false = true) by decide)] at H; exact H
        clear H
        have H := H1
        clear H1
        by_cases c63 : t300 = 0
        · rw [if_pos c63] at H
          have c63b0 : (t300 == 0) = true := beq_iff_eq.mpr c63
          have c63b1 : (t300 != 0) = false := bne_eq_false_iff_eq.mpr c63
          clear c63
          by_cases c64 : t302 = 0
          · rw [if_pos c64] at H
            have c64b0 : (t302 == 0) = true := beq_iff_eq.mpr c64
            have c64b1 : (t302 != 0) = false := bne_eq_false_iff_eq.mpr c64
            clear c64
            replace H := Option.bind_eq_some_iff.mp H
            obtain ⟨t304, A650, H⟩ := H
            replace H : (if t304 = true then ((lattice_Below.f k a1 a2).bind fun t305 => (if t305 = true then (some false) else ((lattice_Below.f k a2 a0).bind fun t306 => (if t306 = true then ((lattice_Below.f k a2 a1).bind fun t307 => (some (!t307))) else (some (!false)))))) else ((lattice_Below.f k a2 a0).bind fun t308 => (if t308 = true then ((lattice_Below.f k a2 a1).bind fun t309 => (some (!t309))) else (some (!false))))) = some r := H
            have A65 := Aside0.mk A650
            clear A650
            by_cases c66 : t304 = true
            · subst c66
              have H1 : ((lattice_Below.f k a1 a2).bind fun t305 => (if t305 = true then (some false) else ((lattice_Below.f k a2 a0).bind fun t306 => (if t306 = true then ((lattice_Below.f k a2 a1).bind fun t307 => (some (!t307))) else (some (!false)))))) = some r := by rw [if_pos rfl] at H; exact H
              clear H
              have H := H1
              clear H1
              replace H := Option.bind_eq_some_iff.mp H
              obtain ⟨t305, A670, H⟩ := H
              replace H : (if t305 = true then (some false) else ((lattice_Below.f k a2 a0).bind fun t306 => (if t306 = true then ((lattice_Below.f k a2 a1).bind fun t307 => (some (!t307))) else (some (!false))))) = some r := H
              have A67 := Aside0.mk A670
              clear A670
              by_cases c68 : t305 = true
              · subst c68
                have H1 : (some false) = some r := by rw [if_pos rfl] at H; exact H
                clear H
                have H := H1
                clear H1
                obtain rfl := Option.some.inj H
                go_enter Try.func6, Try.ntmps6
                go_wp2_with (first | ((with_reducible refine gate_callee (f := 10) rfl ?_); refine goesL_ (some 14) rfl rfl Try.func10 (by kernel_rfl) rfl #[] rfl (by (try simp only [List.map_toArray, List.map_cons, List.map_nil]); first | done | rfl | (simp only [List.length_drop, List.length_take]; rfl)) ?_; (with_reducible refine (moultlaw2_shown.calls k  true _ A4.out).mono ?_); rintro e w69 ⟨rfl, hb⟩; refine ⟨_, rfl, ?_⟩; have n0_ := Aside0.mk (below_step (by repeat (first | (with_reducible first | exact HB.out | apply below_alloc | apply pw_below_drewN | apply below_drew1) | exact HB.out)) hb); clear HB; have HB := n0_; clear n0_; (try clear hb); (try clear hb2); (try clear hk); (try clear hi)) | ((with_reducible refine gate_callee (f := 11) rfl ?_); refine goesL_ (some 20) rfl rfl Try.func11 (by kernel_rfl) rfl #[.int .i64 a0, .int .i64 a1] rfl (by (try simp only [List.map_toArray, List.map_cons, List.map_nil]); first | done | rfl | (simp only [List.length_drop, List.length_take]; rfl)) ?_; (with_reducible refine (lattice_Join.calls k a0 a1 t300 false _ A6.out).mono ?_); rintro e w70 ⟨rfl, hb⟩; refine ⟨_, rfl, ?_⟩; have n0_ := Aside0.mk (below_step (by repeat (first | (with_reducible first | exact HB.out | apply below_alloc | apply pw_below_drewN | apply below_drew1) | exact HB.out)) hb); clear HB; have HB := n0_; clear n0_; (try clear hb); (try clear hb2); (try clear hk); (try clear hi)) | ((with_reducible refine gate_callee (f := 13) rfl ?_); refine goesL_ (some 26) rfl rfl Try.func13 (by kernel_rfl) rfl #[.int .i64 a0, .int .i64 a1] rfl (by (try simp only [List.map_toArray, List.map_cons, List.map_nil]); first | done | rfl | (simp only [List.length_drop, List.length_take]; rfl)) ?_; (with_reducible refine (lattice_Meet.calls k a0 a1 t302 t303 _ A7.out).mono ?_); rintro e w71 ⟨rfl, hb⟩; refine ⟨_, rfl, ?_⟩; have n0_ := Aside0.mk (below_step (by repeat (first | (with_reducible first | exact HB.out | apply below_alloc | apply pw_below_drewN | apply below_drew1) | exact HB.out)) hb); clear HB; have HB := n0_; clear n0_; (try clear hb); (try clear hb2); (try clear hk); (try clear hi)) | (go_at_call 15; (with_reducible refine (lattice_Below.calls k a0 a2 true _ A65.out).mono ?_); rintro e w72 ⟨rfl, hb⟩; have n0_ := Aside0.mk (below_step (by repeat (first | (with_reducible first | exact HB.out | apply below_alloc | apply pw_below_drewN | apply below_drew1) | exact HB.out)) hb); clear HB; have HB := n0_; clear n0_; (try clear hb); (try clear hb2); (try clear hk); (try clear hi)) | (go_at_call 15; (with_reducible refine (lattice_Below.calls k a1 a2 true _ A67.out).mono ?_); rintro e w73 ⟨rfl, hb⟩; have n0_ := Aside0.mk (below_step (by repeat (first | (with_reducible first | exact HB.out | apply below_alloc | apply pw_below_drewN | apply below_drew1) | exact HB.out)) hb); clear HB; have HB := n0_; clear n0_; (try clear hb); (try clear hb2); (try clear hk); (try clear hi)))
                go_ret
                exact ⟨by first | rfl | (simp [errW_none, errW_some] <;> rfl) | (simp [*, errW_none, errW_some] <;> rfl), by repeat (first | (with_reducible first | exact HB.out | apply below_alloc | apply pw_below_drewN | apply below_drew1) | exact HB.out)⟩
              · replace c68 := Bool.eq_false_iff.mpr c68
                subst c68
                have H1 : ((lattice_Below.f k a2 a0).bind fun t306 => (if t306 = true then ((lattice_Below.f k a2 a1).bind fun t307 => (some (!t307))) else (some (!false)))) = some r := by rw [if_neg (show ¬ (false = true) by decide)] at H; exact H
                clear H
                have H := H1
                clear H1
                replace H := Option.bind_eq_some_iff.mp H
                obtain ⟨t306, A740, H⟩ := H
                replace H : (if t306 = true then ((lattice_Below.f k a2 a1).bind fun t307 => (some (!t307))) else (some (!false))) = some r := H
                have A74 := Aside0.mk A740
                clear A740
                by_cases c75 : t306 = true
                · subst c75
                  have H1 : ((lattice_Below.f k a2 a1).bind fun t307 => (some (!t307))) = some r := by rw [if_pos rfl] at H; exact H
                  clear H
                  have H := H1
                  clear H1
                  replace H := Option.bind_eq_some_iff.mp H
                  obtain ⟨t307, A760, H⟩ := H
                  replace H : (some (!t307)) = some r := H
                  have A76 := Aside0.mk A760
                  clear A760
                  obtain rfl := Option.some.inj H
                  go_enter Try.func6, Try.ntmps6
                  go_wp2_with (first | ((with_reducible refine gate_callee (f := 10) rfl ?_); refine goesL_ (some 14) rfl rfl Try.func10 (by kernel_rfl) rfl #[] rfl (by (try simp only [List.map_toArray, List.map_cons, List.map_nil]); first | done | rfl | (simp only [List.length_drop, List.length_take]; rfl)) ?_; (with_reducible refine (moultlaw2_shown.calls k  true _ A4.out).mono ?_); rintro e w77 ⟨rfl, hb⟩; refine ⟨_, rfl, ?_⟩; have n0_ := Aside0.mk (below_step (by repeat (first | (with_reducible first | exact HB.out | apply below_alloc | apply pw_below_drewN | apply below_drew1) | exact HB.out)) hb); clear HB; have HB := n0_; clear n0_; (try clear hb); (try clear hb2); (try clear hk); (try clear hi)) | ((with_reducible refine gate_callee (f := 11) rfl ?_); refine goesL_ (some 20) rfl rfl Try.func11 (by kernel_rfl) rfl #[.int .i64 a0, .int .i64 a1] rfl (by (try simp only [List.map_toArray, List.map_cons, List.map_nil]); first | done | rfl | (simp only [List.length_drop, List.length_take]; rfl)) ?_; (with_reducible refine (lattice_Join.calls k a0 a1 t300 false _ A6.out).mono ?_); rintro e w78 ⟨rfl, hb⟩; refine ⟨_, rfl, ?_⟩; have n0_ := Aside0.mk (below_step (by repeat (first | (with_reducible first | exact HB.out | apply below_alloc | apply pw_below_drewN | apply below_drew1) | exact HB.out)) hb); clear HB; have HB := n0_; clear n0_; (try clear hb); (try clear hb2); (try clear hk); (try clear hi)) | ((with_reducible refine gate_callee (f := 13) rfl ?_); refine goesL_ (some 26) rfl rfl Try.func13 (by kernel_rfl) rfl #[.int .i64 a0, .int .i64 a1] rfl (by (try simp only [List.map_toArray, List.map_cons, List.map_nil]); first | done | rfl | (simp only [List.length_drop, List.length_take]; rfl)) ?_; (with_reducible refine (lattice_Meet.calls k a0 a1 t302 t303 _ A7.out).mono ?_); rintro e w79 ⟨rfl, hb⟩; refine ⟨_, rfl, ?_⟩; have n0_ := Aside0.mk (below_step (by repeat (first | (with_reducible first | exact HB.out | apply below_alloc | apply pw_below_drewN | apply below_drew1) | exact HB.out)) hb); clear HB; have HB := n0_; clear n0_; (try clear hb); (try clear hb2); (try clear hk); (try clear hi)) | (go_at_call 15; (with_reducible refine (lattice_Below.calls k a0 a2 true _ A65.out).mono ?_); rintro e w80 ⟨rfl, hb⟩; have n0_ := Aside0.mk (below_step (by repeat (first | (with_reducible first | exact HB.out | apply below_alloc | apply pw_below_drewN | apply below_drew1) | exact HB.out)) hb); clear HB; have HB := n0_; clear n0_; (try clear hb); (try clear hb2); (try clear hk); (try clear hi)) | (go_at_call 15; (with_reducible refine (lattice_Below.calls k a1 a2 false _ A67.out).mono ?_); rintro e w81 ⟨rfl, hb⟩; have n0_ := Aside0.mk (below_step (by repeat (first | (with_reducible first | exact HB.out | apply below_alloc | apply pw_below_drewN | apply below_drew1) | exact HB.out)) hb); clear HB; have HB := n0_; clear n0_; (try clear hb); (try clear hb2); (try clear hk); (try clear hi)) | (go_at_call 15; (with_reducible refine (lattice_Below.calls k a2 a0 true _ A74.out).mono ?_); rintro e w82 ⟨rfl, hb⟩; have n0_ := Aside0.mk (below_step (by repeat (first | (with_reducible first | exact HB.out | apply below_alloc | apply pw_below_drewN | apply below_drew1) | exact HB.out)) hb); clear HB; have HB := n0_; clear n0_; (try clear hb); (try clear hb2); (try clear hk); (try clear hi)) | (go_at_call 15; (with_reducible refine (lattice_Below.calls k a2 a1 t307 _ A76.out).mono ?_); rintro e w83 ⟨rfl, hb⟩; have n0_ := Aside0.mk (below_step (by repeat (first | (with_reducible first | exact HB.out | apply below_alloc | apply pw_below_drewN | apply below_drew1) | exact HB.out)) hb); clear HB; have HB := n0_; clear n0_; (try clear hb); (try clear hb2); (try clear hk); (try clear hi)))
                  go_ret
                  exact ⟨by first | rfl | (simp [errW_none, errW_some] <;> rfl) | (simp [*, errW_none, errW_some] <;> rfl), by repeat (first | (with_reducible first | exact HB.out | apply below_alloc | apply pw_below_drewN | apply below_drew1) | exact HB.out)⟩
                · replace c75 := Bool.eq_false_iff.mpr c75
                  subst c75
                  have H1 : (some (!false)) = some r := by rw [if_neg (show ¬ (false = true) by decide)] at H; exact H
                  clear H
                  have H := H1
                  clear H1
                  obtain rfl := Option.some.inj H
                  go_enter Try.func6, Try.ntmps6
                  go_wp2_with (first | ((with_reducible refine gate_callee (f := 10) rfl ?_); refine goesL_ (some 14) rfl rfl Try.func10 (by kernel_rfl) rfl #[] rfl (by (try simp only [List.map_toArray, List.map_cons, List.map_nil]); first | done | rfl | (simp only [List.length_drop, List.length_take]; rfl)) ?_; (with_reducible refine (moultlaw2_shown.calls k  true _ A4.out).mono ?_); rintro e w84 ⟨rfl, hb⟩; refine ⟨_, rfl, ?_⟩; have n0_ := Aside0.mk (below_step (by repeat (first | (with_reducible first | exact HB.out | apply below_alloc | apply pw_below_drewN | apply below_drew1) | exact HB.out)) hb); clear HB; have HB := n0_; clear n0_; (try clear hb); (try clear hb2); (try clear hk); (try clear hi)) | ((with_reducible refine gate_callee (f := 11) rfl ?_); refine goesL_ (some 20) rfl rfl Try.func11 (by kernel_rfl) rfl #[.int .i64 a0, .int .i64 a1] rfl (by (try simp only [List.map_toArray, List.map_cons, List.map_nil]); first | done | rfl | (simp only [List.length_drop, List.length_take]; rfl)) ?_; (with_reducible refine (lattice_Join.calls k a0 a1 t300 false _ A6.out).mono ?_); rintro e w85 ⟨rfl, hb⟩; refine ⟨_, rfl, ?_⟩; have n0_ := Aside0.mk (below_step (by repeat (first | (with_reducible first | exact HB.out | apply below_alloc | apply pw_below_drewN | apply below_drew1) | exact HB.out)) hb); clear HB; have HB := n0_; clear n0_; (try clear hb); (try clear hb2); (try clear hk); (try clear hi)) | ((with_reducible refine gate_callee (f := 13) rfl ?_); refine goesL_ (some 26) rfl rfl Try.func13 (by kernel_rfl) rfl #[.int .i64 a0, .int .i64 a1] rfl (by (try simp only [List.map_toArray, List.map_cons, List.map_nil]); first | done | rfl | (simp only [List.length_drop, List.length_take]; rfl)) ?_; (with_reducible refine (lattice_Meet.calls k a0 a1 t302 t303 _ A7.out).mono ?_); rintro e w86 ⟨rfl, hb⟩; refine ⟨_, rfl, ?_⟩; have n0_ := Aside0.mk (below_step (by repeat (first | (with_reducible first | exact HB.out | apply below_alloc | apply pw_below_drewN | apply below_drew1) | exact HB.out)) hb); clear HB; have HB := n0_; clear n0_; (try clear hb); (try clear hb2); (try clear hk); (try clear hi)) | (go_at_call 15; (with_reducible refine (lattice_Below.calls k a0 a2 true _ A65.out).mono ?_); rintro e w87 ⟨rfl, hb⟩; have n0_ := Aside0.mk (below_step (by repeat (first | (with_reducible first | exact HB.out | apply below_alloc | apply pw_below_drewN | apply below_drew1) | exact HB.out)) hb); clear HB; have HB := n0_; clear n0_; (try clear hb); (try clear hb2); (try clear hk); (try clear hi)) | (go_at_call 15; (with_reducible refine (lattice_Below.calls k a1 a2 false _ A67.out).mono ?_); rintro e w88 ⟨rfl, hb⟩; have n0_ := Aside0.mk (below_step (by repeat (first | (with_reducible first | exact HB.out | apply below_alloc | apply pw_below_drewN | apply below_drew1) | exact HB.out)) hb); clear HB; have HB := n0_; clear n0_; (try clear hb); (try clear hb2); (try clear hk); (try clear hi)) | (go_at_call 15; (with_reducible refine (lattice_Below.calls k a2 a0 false _ A74.out).mono ?_); rintro e w89 ⟨rfl, hb⟩; have n0_ := Aside0.mk (below_step (by repeat (first | (with_reducible first | exact HB.out | apply below_alloc | apply pw_below_drewN | apply below_drew1) | exact HB.out)) hb); clear HB; have HB := n0_; clear n0_; (try clear hb); (try clear hb2); (try clear hk); (try clear hi)))
                  go_ret
                  exact ⟨by first | rfl | (simp [errW_none, errW_some] <;> rfl) | (simp [*, errW_none, errW_some] <;> rfl), by repeat (first | (with_reducible first | exact HB.out | apply below_alloc | apply pw_below_drewN | apply below_drew1) | exact HB.out)⟩
            · replace c66 := Bool.eq_false_iff.mpr c66
              subst c66
              have H1 : ((lattice_Below.f k a2 a0).bind fun t308 => (if t308 = true then ((lattice_Below.f k a2 a1).bind fun t309 => (some (!t309))) else (some (!false)))) = some r := by rw [if_neg (show ¬ (false = true) by decide)] at H; exact H
              clear H
              have H := H1
              clear H1
              replace H := Option.bind_eq_some_iff.mp H
              obtain ⟨t308, A900, H⟩ := H
              replace H : (if t308 = true then ((lattice_Below.f k a2 a1).bind fun t309 => (some (!t309))) else (some (!false))) = some r := H
              have A90 := Aside0.mk A900
              clear A900
              by_cases c91 : t308 = true
              · subst c91
                have H1 : ((lattice_Below.f k a2 a1).bind fun t309 => (some (!t309))) = some r := by rw [if_pos rfl] at H; exact H
                clear H
                have H := H1
                clear H1
                replace H := Option.bind_eq_some_iff.mp H
                obtain ⟨t309, A920, H⟩ := H
                replace H : (some (!t309)) = some r := H
                have A92 := Aside0.mk A920
                clear A920
                obtain rfl := Option.some.inj H
                go_enter Try.func6, Try.ntmps6
                go_wp2_with (first | ((with_reducible refine gate_callee (f := 10) rfl ?_); refine goesL_ (some 14) rfl rfl Try.func10 (by kernel_rfl) rfl #[] rfl (by (try simp only [List.map_toArray, List.map_cons, List.map_nil]); first | done | rfl | (simp only [List.length_drop, List.length_take]; rfl)) ?_; (with_reducible refine (moultlaw2_shown.calls k  true _ A4.out).mono ?_); rintro e w93 ⟨rfl, hb⟩; refine ⟨_, rfl, ?_⟩; have n0_ := Aside0.mk (below_step (by repeat (first | (with_reducible first | exact HB.out | apply below_alloc | apply pw_below_drewN | apply below_drew1) | exact HB.out)) hb); clear HB; have HB := n0_; clear n0_; (try clear hb); (try clear hb2); (try clear hk); (try clear hi)) | ((with_reducible refine gate_callee (f := 11) rfl ?_); refine goesL_ (some 20) rfl rfl Try.func11 (by kernel_rfl) rfl #[.int .i64 a0, .int .i64 a1] rfl (by (try simp only [List.map_toArray, List.map_cons, List.map_nil]); first | done | rfl | (simp only [List.length_drop, List.length_take]; rfl)) ?_; (with_reducible refine (lattice_Join.calls k a0 a1 t300 false _ A6.out).mono ?_); rintro e w94 ⟨rfl, hb⟩; refine ⟨_, rfl, ?_⟩; have n0_ := Aside0.mk (below_step (by repeat (first | (with_reducible first | exact HB.out | apply below_alloc | apply pw_below_drewN | apply below_drew1) | exact HB.out)) hb); clear HB; have HB := n0_; clear n0_; (try clear hb); (try clear hb2); (try clear hk); (try clear hi)) | ((with_reducible refine gate_callee (f := 13) rfl ?_); refine goesL_ (some 26) rfl rfl Try.func13 (by kernel_rfl) rfl #[.int .i64 a0, .int .i64 a1] rfl (by (try simp only [List.map_toArray, List.map_cons, List.map_nil]); first | done | rfl | (simp only [List.length_drop, List.length_take]; rfl)) ?_; (with_reducible refine (lattice_Meet.calls k a0 a1 t302 t303 _ A7.out).mono ?_); rintro e w95 ⟨rfl, hb⟩; refine ⟨_, rfl, ?_⟩; have n0_ := Aside0.mk (below_step (by repeat (first | (with_reducible first | exact HB.out | apply below_alloc | apply pw_below_drewN | apply below_drew1) | exact HB.out)) hb); clear HB; have HB := n0_; clear n0_; (try clear hb); (try clear hb2); (try clear hk); (try clear hi)) | (go_at_call 15; (with_reducible refine (lattice_Below.calls k a0 a2 false _ A65.out).mono ?_); rintro e w96 ⟨rfl, hb⟩; have n0_ := Aside0.mk (below_step (by repeat (first | (with_reducible first | exact HB.out | apply below_alloc | apply pw_below_drewN | apply below_drew1) | exact HB.out)) hb); clear HB; have HB := n0_; clear n0_; (try clear hb); (try clear hb2); (try clear hk); (try clear hi)) | (go_at_call 15; (with_reducible refine (lattice_Below.calls k a2 a0 true _ A90.out).mono ?_); rintro e w97 ⟨rfl, hb⟩; have n0_ := Aside0.mk (below_step (by repeat (first | (with_reducible first | exact HB.out | apply below_alloc | apply pw_below_drewN | apply below_drew1) | exact HB.out)) hb); clear HB; have HB := n0_; clear n0_; (try clear hb); (try clear hb2); (try clear hk); (try clear hi)) | (go_at_call 15; (with_reducible refine (lattice_Below.calls k a2 a1 t309 _ A92.out).mono ?_); rintro e w98 ⟨rfl, hb⟩; have n0_ := Aside0.mk (below_step (by repeat (first | (with_reducible first | exact HB.out | apply below_alloc | apply pw_below_drewN | apply below_drew1) | exact HB.out)) hb); clear HB; have HB := n0_; clear n0_; (try clear hb); (try clear hb2); (try clear hk); (try clear hi)))
                go_ret
                exact ⟨by first | rfl | (simp [errW_none, errW_some] <;> rfl) | (simp [*, errW_none, errW_some] <;> rfl), by repeat (first | (with_reducible first | exact HB.out | apply below_alloc | apply pw_below_drewN | apply below_drew1) | exact HB.out)⟩
              · replace c91 := Bool.eq_false_iff.mpr c91
                subst c91
                have H1 : (some (!false)) = some r := by rw [if_neg (show ¬ (false = true) by decide)] at H; exact H
                clear H
                have H := H1
                clear H1
                obtain rfl := Option.some.inj H
                go_enter Try.func6, Try.ntmps6
                go_wp2_with (first | ((with_reducible refine gate_callee (f := 10) rfl ?_); refine goesL_ (some 14) rfl rfl Try.func10 (by kernel_rfl) rfl #[] rfl (by (try simp only [List.map_toArray, List.map_cons, List.map_nil]); first | done | rfl | (simp only [List.length_drop, List.length_take]; rfl)) ?_; (with_reducible refine (moultlaw2_shown.calls k  true _ A4.out).mono ?_); rintro e w99 ⟨rfl, hb⟩; refine ⟨_, rfl, ?_⟩; have n0_ := Aside0.mk (below_step (by repeat (first | (with_reducible first | exact HB.out | apply below_alloc | apply pw_below_drewN | apply below_drew1) | exact HB.out)) hb); clear HB; have HB := n0_; clear n0_; (try clear hb); (try clear hb2); (try clear hk); (try clear hi)) | ((with_reducible refine gate_callee (f := 11) rfl ?_); refine goesL_ (some 20) rfl rfl Try.func11 (by kernel_rfl) rfl #[.int .i64 a0, .int .i64 a1] rfl (by (try simp only [List.map_toArray, List.map_cons, List.map_nil]); first | done | rfl | (simp only [List.length_drop, List.length_take]; rfl)) ?_; (with_reducible refine (lattice_Join.calls k a0 a1 t300 false _ A6.out).mono ?_); rintro e w100 ⟨rfl, hb⟩; refine ⟨_, rfl, ?_⟩; have n0_ := Aside0.mk (below_step (by repeat (first | (with_reducible first | exact HB.out | apply below_alloc | apply pw_below_drewN | apply below_drew1) | exact HB.out)) hb); clear HB; have HB := n0_; clear n0_; (try clear hb); (try clear hb2); (try clear hk); (try clear hi)) | ((with_reducible refine gate_callee (f := 13) rfl ?_); refine goesL_ (some 26) rfl rfl Try.func13 (by kernel_rfl) rfl #[.int .i64 a0, .int .i64 a1] rfl (by (try simp only [List.map_toArray, List.map_cons, List.map_nil]); first | done | rfl | (simp only [List.length_drop, List.length_take]; rfl)) ?_; (with_reducible refine (lattice_Meet.calls k a0 a1 t302 t303 _ A7.out).mono ?_); rintro e w101 ⟨rfl, hb⟩; refine ⟨_, rfl, ?_⟩; have n0_ := Aside0.mk (below_step (by repeat (first | (with_reducible first | exact HB.out | apply below_alloc | apply pw_below_drewN | apply below_drew1) | exact HB.out)) hb); clear HB; have HB := n0_; clear n0_; (try clear hb); (try clear hb2); (try clear hk); (try clear hi)) | (go_at_call 15; (with_reducible refine (lattice_Below.calls k a0 a2 false _ A65.out).mono ?_); rintro e w102 ⟨rfl, hb⟩; have n0_ := Aside0.mk (below_step (by repeat (first | (with_reducible first | exact HB.out | apply below_alloc | apply pw_below_drewN | apply below_drew1) | exact HB.out)) hb); clear HB; have HB := n0_; clear n0_; (try clear hb); (try clear hb2); (try clear hk); (try clear hi)) | (go_at_call 15; (with_reducible refine (lattice_Below.calls k a2 a0 false _ A90.out).mono ?_); rintro e w103 ⟨rfl, hb⟩; have n0_ := Aside0.mk (below_step (by repeat (first | (with_reducible first | exact HB.out | apply below_alloc | apply pw_below_drewN | apply below_drew1) | exact HB.out)) hb); clear HB; have HB := n0_; clear n0_; (try clear hb); (try clear hb2); (try clear hk); (try clear hi)))
                go_ret
                exact ⟨by first | rfl | (simp [errW_none, errW_some] <;> rfl) | (simp [*, errW_none, errW_some] <;> rfl), by repeat (first | (with_reducible first | exact HB.out | apply below_alloc | apply pw_below_drewN | apply below_drew1) | exact HB.out)⟩
          · rw [if_neg c64] at H
            have c64b0 : (t302 == 0) = false := beq_eq_false_iff_ne.mpr c64
            have c64b1 : (t302 != 0) = true := bne_iff_ne.mpr c64
            obtain rfl := Option.some.inj H
            go_enter Try.func6, Try.ntmps6
            go_wp2_with (first | ((with_reducible refine gate_callee (f := 10) rfl ?_); refine goesL_ (some 14) rfl rfl Try.func10 (by kernel_rfl) rfl #[] rfl (by (try simp only [List.map_toArray, List.map_cons, List.map_nil]); first | done | rfl | (simp only [List.length_drop, List.length_take]; rfl)) ?_; (with_reducible refine (moultlaw2_shown.calls k  true _ A4.out).mono ?_); rintro e w104 ⟨rfl, hb⟩; refine ⟨_, rfl, ?_⟩; have n0_ := Aside0.mk (below_step (by repeat (first | (with_reducible first | exact HB.out | apply below_alloc | apply pw_below_drewN | apply below_drew1) | exact HB.out)) hb); clear HB; have HB := n0_; clear n0_; (try clear hb); (try clear hb2); (try clear hk); (try clear hi)) | ((with_reducible refine gate_callee (f := 11) rfl ?_); refine goesL_ (some 20) rfl rfl Try.func11 (by kernel_rfl) rfl #[.int .i64 a0, .int .i64 a1] rfl (by (try simp only [List.map_toArray, List.map_cons, List.map_nil]); first | done | rfl | (simp only [List.length_drop, List.length_take]; rfl)) ?_; (with_reducible refine (lattice_Join.calls k a0 a1 t300 false _ A6.out).mono ?_); rintro e w105 ⟨rfl, hb⟩; refine ⟨_, rfl, ?_⟩; have n0_ := Aside0.mk (below_step (by repeat (first | (with_reducible first | exact HB.out | apply below_alloc | apply pw_below_drewN | apply below_drew1) | exact HB.out)) hb); clear HB; have HB := n0_; clear n0_; (try clear hb); (try clear hb2); (try clear hk); (try clear hi)) | ((with_reducible refine gate_callee (f := 13) rfl ?_); refine goesL_ (some 26) rfl rfl Try.func13 (by kernel_rfl) rfl #[.int .i64 a0, .int .i64 a1] rfl (by (try simp only [List.map_toArray, List.map_cons, List.map_nil]); first | done | rfl | (simp only [List.length_drop, List.length_take]; rfl)) ?_; (with_reducible refine (lattice_Meet.calls k a0 a1 t302 t303 _ A7.out).mono ?_); rintro e w106 ⟨rfl, hb⟩; refine ⟨_, rfl, ?_⟩; have n0_ := Aside0.mk (below_step (by repeat (first | (with_reducible first | exact HB.out | apply below_alloc | apply pw_below_drewN | apply below_drew1) | exact HB.out)) hb); clear HB; have HB := n0_; clear n0_; (try clear hb); (try clear hb2); (try clear hk); (try clear hi)))
            go_ret
            exact ⟨by first | rfl | (simp [errW_none, errW_some] <;> rfl) | (simp [*, errW_none, errW_some] <;> rfl), by repeat (first | (with_reducible first | exact HB.out | apply below_alloc | apply pw_below_drewN | apply below_drew1) | exact HB.out)⟩
        · rw [if_neg c63] at H
          have c63b0 : (t300 == 0) = false := beq_eq_false_iff_ne.mpr c63
          have c63b1 : (t300 != 0) = true := bne_iff_ne.mpr c63
          obtain rfl := Option.some.inj H
          go_enter Try.func6, Try.ntmps6
          go_wp2_with (first | ((with_reducible refine gate_callee (f := 10) rfl ?_); refine goesL_ (some 14) rfl rfl Try.func10 (by kernel_rfl) rfl #[] rfl (by (try simp only [List.map_toArray, List.map_cons, List.map_nil]); first | done | rfl | (simp only [List.length_drop, List.length_take]; rfl)) ?_; (with_reducible refine (moultlaw2_shown.calls k  true _ A4.out).mono ?_); rintro e w107 ⟨rfl, hb⟩; refine ⟨_, rfl, ?_⟩; have n0_ := Aside0.mk (below_step (by repeat (first | (with_reducible first | exact HB.out | apply below_alloc | apply pw_below_drewN | apply below_drew1) | exact HB.out)) hb); clear HB; have HB := n0_; clear n0_; (try clear hb); (try clear hb2); (try clear hk); (try clear hi)) | ((with_reducible refine gate_callee (f := 11) rfl ?_); refine goesL_ (some 20) rfl rfl Try.func11 (by kernel_rfl) rfl #[.int .i64 a0, .int .i64 a1] rfl (by (try simp only [List.map_toArray, List.map_cons, List.map_nil]); first | done | rfl | (simp only [List.length_drop, List.length_take]; rfl)) ?_; (with_reducible refine (lattice_Join.calls k a0 a1 t300 false _ A6.out).mono ?_); rintro e w108 ⟨rfl, hb⟩; refine ⟨_, rfl, ?_⟩; have n0_ := Aside0.mk (below_step (by repeat (first | (with_reducible first | exact HB.out | apply below_alloc | apply pw_below_drewN | apply below_drew1) | exact HB.out)) hb); clear HB; have HB := n0_; clear n0_; (try clear hb); (try clear hb2); (try clear hk); (try clear hi)) | ((with_reducible refine gate_callee (f := 13) rfl ?_); refine goesL_ (some 26) rfl rfl Try.func13 (by kernel_rfl) rfl #[.int .i64 a0, .int .i64 a1] rfl (by (try simp only [List.map_toArray, List.map_cons, List.map_nil]); first | done | rfl | (simp only [List.length_drop, List.length_take]; rfl)) ?_; (with_reducible refine (lattice_Meet.calls k a0 a1 t302 t303 _ A7.out).mono ?_); rintro e w109 ⟨rfl, hb⟩; refine ⟨_, rfl, ?_⟩; have n0_ := Aside0.mk (below_step (by repeat (first | (with_reducible first | exact HB.out | apply below_alloc | apply pw_below_drewN | apply below_drew1) | exact HB.out)) hb); clear HB; have HB := n0_; clear n0_; (try clear hb); (try clear hb2); (try clear hk); (try clear hi)))
          go_ret
          exact ⟨by first | rfl | (simp [errW_none, errW_some] <;> rfl) | (simp [*, errW_none, errW_some] <;> rfl), by repeat (first | (with_reducible first | exact HB.out | apply below_alloc | apply pw_below_drewN | apply below_drew1) | exact HB.out)⟩
  · replace c5 := Bool.eq_false_iff.mpr c5
    subst c5
    have H1 : (some false) = some r := by rw [if_neg (show ¬ (false = true) by decide)] at H; exact H
    clear H
    have H := H1
    clear H1
    obtain rfl := Option.some.inj H
    go_enter Try.func6, Try.ntmps6
    go_wp2_with (first | ((with_reducible refine gate_callee (f := 10) rfl ?_); refine goesL_ (some 14) rfl rfl Try.func10 (by kernel_rfl) rfl #[] rfl (by (try simp only [List.map_toArray, List.map_cons, List.map_nil]); first | done | rfl | (simp only [List.length_drop, List.length_take]; rfl)) ?_; (with_reducible refine (moultlaw2_shown.calls k  false _ A4.out).mono ?_); rintro e w110 ⟨rfl, hb⟩; refine ⟨_, rfl, ?_⟩; have n0_ := Aside0.mk (below_step (by repeat (first | (with_reducible first | exact HB.out | apply below_alloc | apply pw_below_drewN | apply below_drew1) | exact HB.out)) hb); clear HB; have HB := n0_; clear n0_; (try clear hb); (try clear hb2); (try clear hk); (try clear hi)))
    go_ret
    exact ⟨by first | rfl | (simp [errW_none, errW_some] <;> rfl) | (simp [*, errW_none, errW_some] <;> rfl), by repeat (first | (with_reducible first | exact HB.out | apply below_alloc | apply pw_below_drewN | apply below_drew1) | exact HB.out)⟩

/-- THE ONE PURE STATEMENT of moultlaw2_LatticeBounds: yours. -/
def moultlaw2_LatticeBounds.Pure : Prop := ∀ (a0 : Int) (a1 : Int) (a2 : Int), (Lit.int .i64 a0).wf = true → (Lit.int .i64 a1).wf = true → (Lit.int .i64 a2).wf = true → ∃ k, moultlaw2_LatticeBounds.f k a0 a1 a2 = some true
theorem moultlaw2_LatticeBounds.walk (P : moultlaw2_LatticeBounds.Pure) (a0 : Int) (a1 : Int) (a2 : Int) (w : World) (w0 : (Lit.int .i64 a0).wf = true) (w1 : (Lit.int .i64 a1).wf = true) (w2 : (Lit.int .i64 a2).wf = true) :
    Calls Try.prog 6 #[.int .i64 a0, .int .i64 a1, .int .i64 a2] w fun e w' => e = .returned (.bool true) ∧ Below w.heap.size w w' := by
  obtain ⟨k, h⟩ := P a0 a1 a2 w0 w1 w2
  refine (moultlaw2_LatticeBounds.calls k a0 a1 a2 true w h).mono ?_
  rintro e w' ⟨rfl, hd⟩
  exact ⟨rfl, hd⟩

end Go.Proofs.Ytcabpbjghiobpaa.PAll
