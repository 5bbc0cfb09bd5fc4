/- Printed functions without a bound on rounds, and their equations: laid by genlim.py (a program of the session). -/
import Derived.Test.YthdoanbadhfhjaaPAllx13
import Derived.Test.YthdoanbadhfhjaaLi
import Derived.Test.YthdoanbadhfhjaaLa
namespace Go.Proofs.Ythdoanbadhfhjaa.PAll
open Go.Proofs.Ythdoanbadhfhjaa Go.RowKit Go.Proofs.YthdoanbadhfhjaaW.PrintWords Go.Proofs.YthdoanbadhfhjaaW.PrintLast Go.Proofs.YthdoanbadhfhjaaW.PrintMore
set_option linter.unusedVariables false

noncomputable def moultref12_Visible.l0L (x0 : List (S36)) (x1 : Int) (x5 : List (S36)) (x6 : Int) : Option ((List (S36))) := lim (fun k => moultref12_Visible.l0 k x0 x1 x5 x6)
theorem moultref12_Visible.l0_lim (x0 : List (S36)) (x1 : Int) (x5 : List (S36)) (x6 : Int) : IsLim (fun k => moultref12_Visible.l0 k x0 x1 x5 x6) (moultref12_Visible.l0L x0 x1 x5 x6) := isLim_lim (fun k => (moultref12_Visible.mono_l k) x0 x1 x5 x6)
noncomputable def moultref12_Visible.fL (l0 : List (S36)) (a1 : Int) : Option ((List (S36))) := lim (fun k => moultref12_Visible.f k l0 a1)
theorem moultref12_Visible.f_lim (l0 : List (S36)) (a1 : Int) : IsLim (fun k => moultref12_Visible.f k l0 a1) (moultref12_Visible.fL l0 a1) := isLim_lim (fun k => moultref12_Visible.mono l0 a1 k)
noncomputable def moultref12_ends.l0L (x0 : List (S36)) (x1 : Int) (x5 : Int) : Option (Bool) := lim (fun k => moultref12_ends.l0 k x0 x1 x5)
theorem moultref12_ends.l0_lim (x0 : List (S36)) (x1 : Int) (x5 : Int) : IsLim (fun k => moultref12_ends.l0 k x0 x1 x5) (moultref12_ends.l0L x0 x1 x5) := isLim_lim (fun k => (moultref12_ends.mono_l k).1 x0 x1 x5)
noncomputable def moultref12_ends.j1L (x0 : List (S36)) (x1 : Int) (x5 : Int) (x23 : Bool) : Option (Bool) := lim (fun k => moultref12_ends.j1 k x0 x1 x5 x23)
theorem moultref12_ends.j1_lim (x0 : List (S36)) (x1 : Int) (x5 : Int) (x23 : Bool) : IsLim (fun k => moultref12_ends.j1 k x0 x1 x5 x23) (moultref12_ends.j1L x0 x1 x5 x23) := isLim_lim (fun k => (moultref12_ends.mono_l k).2 x0 x1 x5 x23)
noncomputable def moultref12_ends.fL (l0 : List (S36)) (a1 : Int) : Option (Bool) := lim (fun k => moultref12_ends.f k l0 a1)
theorem moultref12_ends.f_lim (l0 : List (S36)) (a1 : Int) : IsLim (fun k => moultref12_ends.f k l0 a1) (moultref12_ends.fL l0 a1) := isLim_lim (fun k => moultref12_ends.mono l0 a1 k)
noncomputable def moultref12_Thin.l0L (x0 : List (S36)) (x1 : List Int) (x2 : Bool) (x7 : List (S36)) (x8 : Int) : Option ((List (S36))) := lim (fun k => moultref12_Thin.l0 k x0 x1 x2 x7 x8)
theorem moultref12_Thin.l0_lim (x0 : List (S36)) (x1 : List Int) (x2 : Bool) (x7 : List (S36)) (x8 : Int) : IsLim (fun k => moultref12_Thin.l0 k x0 x1 x2 x7 x8) (moultref12_Thin.l0L x0 x1 x2 x7 x8) := isLim_lim (fun k => (moultref12_Thin.mono_l k).1 x0 x1 x2 x7 x8)
noncomputable def moultref12_Thin.l1L (x0 : List (S36)) (x1 : List Int) (x2 : Bool) (x7 : List (S36)) (x8 : Int) (x9 : Bool) (x10 : Int) : Option ((List (S36))) := lim (fun k => moultref12_Thin.l1 k x0 x1 x2 x7 x8 x9 x10)
theorem moultref12_Thin.l1_lim (x0 : List (S36)) (x1 : List Int) (x2 : Bool) (x7 : List (S36)) (x8 : Int) (x9 : Bool) (x10 : Int) : IsLim (fun k => moultref12_Thin.l1 k x0 x1 x2 x7 x8 x9 x10) (moultref12_Thin.l1L x0 x1 x2 x7 x8 x9 x10) := isLim_lim (fun k => (moultref12_Thin.mono_l k).2.1 x0 x1 x2 x7 x8 x9 x10)
noncomputable def moultref12_Thin.l2L (x7 : List (S36)) (x11 : List (S36)) (x12 : Int) : Option ((List (S36))) := lim (fun k => moultref12_Thin.l2 k x7 x11 x12)
theorem moultref12_Thin.l2_lim (x7 : List (S36)) (x11 : List (S36)) (x12 : Int) : IsLim (fun k => moultref12_Thin.l2 k x7 x11 x12) (moultref12_Thin.l2L x7 x11 x12) := isLim_lim (fun k => (moultref12_Thin.mono_l k).2.2 x7 x11 x12)
noncomputable def moultref12_Thin.fL (l0 : List (S36)) (l1 : List Int) (a2 : Bool) : Option ((List (S36))) := lim (fun k => moultref12_Thin.f k l0 l1 a2)
theorem moultref12_Thin.f_lim (l0 : List (S36)) (l1 : List Int) (a2 : Bool) : IsLim (fun k => moultref12_Thin.f k l0 l1 a2) (moultref12_Thin.fL l0 l1 a2) := isLim_lim (fun k => moultref12_Thin.mono l0 l1 a2 k)

set_option maxRecDepth 10000 in
theorem moultref12_Visible.l0L_eq (x0 : List (S36)) (x1 : Int) (x5 : List (S36)) (x6 : Int) : moultref12_Visible.l0L x0 x1 x5 x6 = if x6 < (x0.length : Int) then (if 0 ≤ x6 then ((moultref12_newest.fL x0 ((rd_T36 x0 x6).f0) x1).bind fun t407 => (if t407 = x6 then (if ((rd_T36 x0 x6).f2 = true) then (moultref12_Visible.l0L x0 x1 x5 (wrap64 (x6 + 1))) else (if x5.length < 2932031007402 then (moultref12_Visible.l0L x0 x1 (x5 ++ [(⟨(rd_T36 x0 x6).f0, (rd_T36 x0 x6).f1, (rd_T36 x0 x6).f2, (rd_T36 x0 x6).f3⟩ : S36)]) (wrap64 (x6 + 1))) else (none))) else (moultref12_Visible.l0L x0 x1 x5 (wrap64 (x6 + 1))))) else (none)) else (some x5) := by
  refine (moultref12_Visible.l0_lim x0 x1 x5 x6).unique (IsLim.succ (fun k => (moultref12_Visible.mono_l k) x0 x1 x5 x6) ?_)
  simp only [moultref12_Visible.l0]
  repeat' first | with_reducible exact IsLim.const _ | with_reducible refine IsLim.ite ?_ ?_ | with_reducible refine IsLim.bind ?_ (fun _ => ?_) | exact moultref12_newest.f_lim _ _ _ | exact moultref12_Visible.l0_lim _ _ _ _ | exact IsLim.const _
set_option maxRecDepth 10000 in
theorem moultref12_Visible.fL_eq (l0 : List (S36)) (a1 : Int) : moultref12_Visible.fL l0 a1 = moultref12_Visible.l0L l0 a1 ([] : List (S36)) 0 := by
  refine (moultref12_Visible.f_lim l0 a1).unique ?_
  simp only [moultref12_Visible.f]
  repeat' first | with_reducible exact IsLim.const _ | with_reducible refine IsLim.ite ?_ ?_ | with_reducible refine IsLim.bind ?_ (fun _ => ?_) | exact moultref12_Visible.l0_lim _ _ _ _ | exact IsLim.const _
set_option maxRecDepth 10000 in
theorem moultref12_ends.l0L_eq (x0 : List (S36)) (x1 : Int) (x5 : Int) : moultref12_ends.l0L x0 x1 x5 = if x5 < (x0.length : Int) then (if 0 ≤ x5 then (if 0 ≤ x1 then (if x1 < (x0.length : Int) then (moultref12_ends.j1L x0 x1 x5 (((rd_T36 x0 x5).f0).toList == ((rd_T36 x0 x1).f0).toList)) else (none)) else (none)) else (none)) else (moultref12_ends.j1L x0 x1 x5 false) := by
  refine (moultref12_ends.l0_lim x0 x1 x5).unique (IsLim.succ (fun k => (moultref12_ends.mono_l k).1 x0 x1 x5) ?_)
  simp only [moultref12_ends.l0]
  repeat' first | with_reducible exact IsLim.const _ | with_reducible refine IsLim.ite ?_ ?_ | with_reducible refine IsLim.bind ?_ (fun _ => ?_) | exact moultref12_ends.j1_lim _ _ _ _ | exact IsLim.const _
set_option maxRecDepth 10000 in
theorem moultref12_ends.j1L_eq (x0 : List (S36)) (x1 : Int) (x5 : Int) (x23 : Bool) : moultref12_ends.j1L x0 x1 x5 x23 = if x23 = true then (if 0 ≤ x5 then (if x5 < (x0.length : Int) then (if ((rd_T36 x0 x5).f2 = true) then (moultref12_ends.l0L x0 x1 (wrap64 (x5 + 1))) else (some false)) else (none)) else (none)) else (some true) := by
  refine (moultref12_ends.j1_lim x0 x1 x5 x23).unique (IsLim.succ (fun k => (moultref12_ends.mono_l k).2 x0 x1 x5 x23) ?_)
  simp only [moultref12_ends.j1]
  repeat' first | with_reducible exact IsLim.const _ | with_reducible refine IsLim.ite ?_ ?_ | with_reducible refine IsLim.bind ?_ (fun _ => ?_) | exact moultref12_ends.l0_lim _ _ _ | exact IsLim.const _
set_option maxRecDepth 10000 in
theorem moultref12_ends.fL_eq (l0 : List (S36)) (a1 : Int) : moultref12_ends.fL l0 a1 = moultref12_ends.l0L l0 a1 a1 := by
  refine (moultref12_ends.f_lim l0 a1).unique ?_
  simp only [moultref12_ends.f]
  repeat' first | with_reducible exact IsLim.const _ | with_reducible refine IsLim.ite ?_ ?_ | with_reducible refine IsLim.bind ?_ (fun _ => ?_) | exact moultref12_ends.l0_lim _ _ _ | exact IsLim.const _
set_option maxRecDepth 10000 in
theorem moultref12_Thin.l0L_eq (x0 : List (S36)) (x1 : List Int) (x2 : Bool) (x7 : List (S36)) (x8 : Int) : moultref12_Thin.l0L x0 x1 x2 x7 x8 = if x8 < (x0.length : Int) then (if 0 ≤ x8 then ((moultref12_newest.fL x0 ((rd_T36 x0 x8).f0) 4611686018427387904).bind fun t417 => (moultref12_Thin.l1L x0 x1 x2 x7 x8 (t417 == x8) 0)) else (none)) else (if x2 = true then (moultref12_Thin.l2L x7 ([] : List (S36)) 0) else (some x7)) := by
  refine (moultref12_Thin.l0_lim x0 x1 x2 x7 x8).unique (IsLim.succ (fun k => (moultref12_Thin.mono_l k).1 x0 x1 x2 x7 x8) ?_)
  simp only [moultref12_Thin.l0]
  repeat' first | with_reducible exact IsLim.const _ | with_reducible refine IsLim.ite ?_ ?_ | with_reducible refine IsLim.bind ?_ (fun _ => ?_) | exact moultref12_newest.f_lim _ _ _ | exact moultref12_Thin.l1_lim _ _ _ _ _ _ _ | exact moultref12_Thin.l2_lim _ _ _ | exact IsLim.const _
set_option maxRecDepth 10000 in
theorem moultref12_Thin.l1L_eq (x0 : List (S36)) (x1 : List Int) (x2 : Bool) (x7 : List (S36)) (x8 : Int) (x9 : Bool) (x10 : Int) : moultref12_Thin.l1L x0 x1 x2 x7 x8 x9 x10 = if x10 < (x1.length : Int) then (if x9 = true then (moultref12_Thin.l1L x0 x1 x2 x7 x8 true (wrap64 (x10 + 1))) else (if 0 ≤ x8 then (if x8 < (x0.length : Int) then (if 0 ≤ x10 then ((moultref12_newest.fL x0 ((rd_T36 x0 x8).f0) (rd x1 x10)).bind fun t420 => (moultref12_Thin.l1L x0 x1 x2 x7 x8 (t420 == x8) (wrap64 (x10 + 1)))) else (none)) else (none)) else (none))) else (if x9 = true then (if 0 ≤ x8 then (if x8 < (x0.length : Int) then (if x7.length < 2932031007402 then (moultref12_Thin.l0L x0 x1 x2 (x7 ++ [(⟨(rd_T36 x0 x8).f0, (rd_T36 x0 x8).f1, (rd_T36 x0 x8).f2, (rd_T36 x0 x8).f3⟩ : S36)]) (wrap64 (x8 + 1))) else (none)) else (none)) else (none)) else (moultref12_Thin.l0L x0 x1 x2 x7 (wrap64 (x8 + 1)))) := by
  refine (moultref12_Thin.l1_lim x0 x1 x2 x7 x8 x9 x10).unique (IsLim.succ (fun k => (moultref12_Thin.mono_l k).2.1 x0 x1 x2 x7 x8 x9 x10) ?_)
  simp only [moultref12_Thin.l1]
  repeat' first | with_reducible exact IsLim.const _ | with_reducible refine IsLim.ite ?_ ?_ | with_reducible refine IsLim.bind ?_ (fun _ => ?_) | exact moultref12_Thin.l1_lim _ _ _ _ _ _ _ | exact moultref12_newest.f_lim _ _ _ | exact moultref12_Thin.l0_lim _ _ _ _ _ | exact IsLim.const _
set_option maxRecDepth 10000 in
theorem moultref12_Thin.l2L_eq (x7 : List (S36)) (x11 : List (S36)) (x12 : Int) : moultref12_Thin.l2L x7 x11 x12 = if x12 < (x7.length : Int) then ((moultref12_ends.fL x7 x12).bind fun t425 => (if t425 = true then (moultref12_Thin.l2L x7 x11 (wrap64 (x12 + 1))) else (if 0 ≤ x12 then (if x11.length < 2932031007402 then (moultref12_Thin.l2L x7 (x11 ++ [(⟨(rd_T36 x7 x12).f0, (rd_T36 x7 x12).f1, (rd_T36 x7 x12).f2, (rd_T36 x7 x12).f3⟩ : S36)]) (wrap64 (x12 + 1))) else (none)) else (none)))) else (some x11) := by
  refine (moultref12_Thin.l2_lim x7 x11 x12).unique (IsLim.succ (fun k => (moultref12_Thin.mono_l k).2.2 x7 x11 x12) ?_)
  simp only [moultref12_Thin.l2]
  repeat' first | with_reducible exact IsLim.const _ | with_reducible refine IsLim.ite ?_ ?_ | with_reducible refine IsLim.bind ?_ (fun _ => ?_) | exact moultref12_ends.f_lim _ _ | exact moultref12_Thin.l2_lim _ _ _ | exact IsLim.const _
set_option maxRecDepth 10000 in
theorem moultref12_Thin.fL_eq (l0 : List (S36)) (l1 : List Int) (a2 : Bool) : moultref12_Thin.fL l0 l1 a2 = moultref12_Thin.l0L l0 l1 a2 ([] : List (S36)) 0 := by
  refine (moultref12_Thin.f_lim l0 l1 a2).unique ?_
  simp only [moultref12_Thin.f]
  repeat' first | with_reducible exact IsLim.const _ | with_reducible refine IsLim.ite ?_ ?_ | with_reducible refine IsLim.bind ?_ (fun _ => ?_) | exact moultref12_Thin.l0_lim _ _ _ _ _ | exact IsLim.const _
end Go.Proofs.Ythdoanbadhfhjaa.PAll
