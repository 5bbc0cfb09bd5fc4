/- Printed functions without a bound on rounds, and their equations: laid by genlim.py (a program of the session). -/
import Derived.Test.YthdoanbadhfhjaaPAllx21
import Derived.Test.YthdoanbadhfhjaaLi
import Derived.Test.YthdoanbadhfhjaaLa
import Derived.Test.YthdoanbadhfhjaaLn
namespace Go.Proofs.Ythdoanbadhfhjaa.PAll
open Go.Proofs.Ythdoanbadhfhjaa Go.RowKit Go.Proofs.YthdoanbadhfhjaaW.PrintWords Go.Proofs.YthdoanbadhfhjaaW.PrintLast Go.Proofs.YthdoanbadhfhjaaW.PrintMore
set_option linter.unusedVariables false

noncomputable def moultlaw12_MergeNeeds.j0L (x1 : List Int) (x2 : Bool) (x7 : Bool) (x8 : List (List (S36))) (x32 : Bool) : Option (Bool) := lim (fun k => moultlaw12_MergeNeeds.j0 k x1 x2 x7 x8 x32)
theorem moultlaw12_MergeNeeds.j0_lim (x1 : List Int) (x2 : Bool) (x7 : Bool) (x8 : List (List (S36))) (x32 : Bool) : IsLim (fun k => moultlaw12_MergeNeeds.j0 k x1 x2 x7 x8 x32) (moultlaw12_MergeNeeds.j0L x1 x2 x7 x8 x32) := isLim_lim (fun k => (moultlaw12_MergeNeeds.mono_l k).1 x1 x2 x7 x8 x32)
noncomputable def moultlaw12_MergeNeeds.l0L (x1 : List Int) (x2 : Bool) (x8 : List (List (S36))) (x10 : List (S36)) (x11 : Int) : Option (Bool) := lim (fun k => moultlaw12_MergeNeeds.l0 k x1 x2 x8 x10 x11)
theorem moultlaw12_MergeNeeds.l0_lim (x1 : List Int) (x2 : Bool) (x8 : List (List (S36))) (x10 : List (S36)) (x11 : Int) : IsLim (fun k => moultlaw12_MergeNeeds.l0 k x1 x2 x8 x10 x11) (moultlaw12_MergeNeeds.l0L x1 x2 x8 x10 x11) := isLim_lim (fun k => (moultlaw12_MergeNeeds.mono_l k).2.1 x1 x2 x8 x10 x11)
noncomputable def moultlaw12_MergeNeeds.l1L (x1 : List Int) (x2 : Bool) (x8 : List (List (S36))) (x10 : List (S36)) (x11 : Int) (x12 : Bool) (x13 : Int) : Option (Bool) := lim (fun k => moultlaw12_MergeNeeds.l1 k x1 x2 x8 x10 x11 x12 x13)
theorem moultlaw12_MergeNeeds.l1_lim (x1 : List Int) (x2 : Bool) (x8 : List (List (S36))) (x10 : List (S36)) (x11 : Int) (x12 : Bool) (x13 : Int) : IsLim (fun k => moultlaw12_MergeNeeds.l1 k x1 x2 x8 x10 x11 x12 x13) (moultlaw12_MergeNeeds.l1L x1 x2 x8 x10 x11 x12 x13) := isLim_lim (fun k => (moultlaw12_MergeNeeds.mono_l k).2.2 x1 x2 x8 x10 x11 x12 x13)
noncomputable def moultlaw12_MergeNeeds.fL (l0 : List (S36)) (l1 : List Int) (a2 : Bool) : Option (Bool) := lim (fun k => moultlaw12_MergeNeeds.f k l0 l1 a2)
theorem moultlaw12_MergeNeeds.f_lim (l0 : List (S36)) (l1 : List Int) (a2 : Bool) : IsLim (fun k => moultlaw12_MergeNeeds.f k l0 l1 a2) (moultlaw12_MergeNeeds.fL l0 l1 a2) := isLim_lim (fun k => moultlaw12_MergeNeeds.mono l0 l1 a2 k)

set_option maxRecDepth 10000 in
theorem moultlaw12_MergeNeeds.j0L_eq (x1 : List Int) (x2 : Bool) (x7 : Bool) (x8 : List (List (S36))) (x32 : Bool) : moultlaw12_MergeNeeds.j0L x1 x2 x7 x8 x32 = if x32 = true then (some x7) else (if 0 < (x8.length : Int) then ((merge_Thin.fL (rd_L4 x8 0) x1 x2).bind fun t625 => (moultlaw12_MergeNeeds.l0L x1 x2 x8 t625 0)) else (none)) := by
  refine (moultlaw12_MergeNeeds.j0_lim x1 x2 x7 x8 x32).unique (IsLim.succ (fun k => (moultlaw12_MergeNeeds.mono_l k).1 x1 x2 x7 x8 x32) ?_)
  simp only [moultlaw12_MergeNeeds.j0]
  repeat' first | with_reducible exact IsLim.const _ | with_reducible refine IsLim.ite ?_ ?_ | with_reducible refine IsLim.bind ?_ (fun _ => ?_) | exact merge_Thin.f_lim _ _ _ | exact moultlaw12_MergeNeeds.l0_lim _ _ _ _ _ | exact IsLim.const _
set_option maxRecDepth 10000 in
theorem moultlaw12_MergeNeeds.l0L_eq (x1 : List Int) (x2 : Bool) (x8 : List (List (S36))) (x10 : List (S36)) (x11 : Int) : moultlaw12_MergeNeeds.l0L x1 x2 x8 x10 x11 = if x11 < (x10.length : Int) then (if 0 < (x8.length : Int) then (if 0 ≤ x11 then ((moultlaw12_newest.fL (rd_L4 x8 0) ((rd_T36 x10 x11).f0) ((rd_T36 x10 x11).f1) ((rd_T36 x10 x11).f2) ((rd_T36 x10 x11).f3) 1125899906842624).bind fun t630 => (moultlaw12_MergeNeeds.l1L x1 x2 x8 x10 x11 t630 0)) else (none)) else (none)) else (some true) := by
  refine (moultlaw12_MergeNeeds.l0_lim x1 x2 x8 x10 x11).unique (IsLim.succ (fun k => (moultlaw12_MergeNeeds.mono_l k).2.1 x1 x2 x8 x10 x11) ?_)
  simp only [moultlaw12_MergeNeeds.l0]
  repeat' first | with_reducible exact IsLim.const _ | with_reducible refine IsLim.ite ?_ ?_ | with_reducible refine IsLim.bind ?_ (fun _ => ?_) | exact moultlaw12_newest.f_lim _ _ _ _ _ _ | exact moultlaw12_MergeNeeds.l1_lim _ _ _ _ _ _ _ | exact IsLim.const _
set_option maxRecDepth 10000 in
theorem moultlaw12_MergeNeeds.l1L_eq (x1 : List Int) (x2 : Bool) (x8 : List (List (S36))) (x10 : List (S36)) (x11 : Int) (x12 : Bool) (x13 : Int) : moultlaw12_MergeNeeds.l1L x1 x2 x8 x10 x11 x12 x13 = if x13 < (x1.length : Int) then (if x12 = true then (moultlaw12_MergeNeeds.l1L x1 x2 x8 x10 x11 true (wrap64 (x13 + 1))) else (if 0 < (x8.length : Int) then (if 0 ≤ x11 then (if x11 < (x10.length : Int) then (if 0 ≤ x13 then ((moultlaw12_newest.fL (rd_L4 x8 0) ((rd_T36 x10 x11).f0) ((rd_T36 x10 x11).f1) ((rd_T36 x10 x11).f2) ((rd_T36 x10 x11).f3) (rd x1 x13)).bind fun t634 => (moultlaw12_MergeNeeds.l1L x1 x2 x8 x10 x11 t634 (wrap64 (x13 + 1)))) else (none)) else (none)) else (none)) else (none))) else (if (wrap64 (x11 + 1)) = (x10.length : Int) then (if x12 = true then (if x2 = true then (if 0 ≤ x11 then (if x11 < (x10.length : Int) then (if (rd_T36 x10 x11).f2 = true then (some false) else (moultlaw12_MergeNeeds.l0L x1 x2 x8 x10 (wrap64 (x11 + 1)))) else (none)) else (none)) else (moultlaw12_MergeNeeds.l0L x1 x2 x8 x10 (wrap64 (x11 + 1)))) else (some false)) else (if 0 ≤ (wrap64 (x11 + 1)) then (if (wrap64 (x11 + 1)) < (x10.length : Int) then (if 0 ≤ x11 then (if x11 < (x10.length : Int) then (if x12 = true then (if x2 = true then (if ((rd_T36 x10 (wrap64 (x11 + 1))).f0).toList = ((rd_T36 x10 x11).f0).toList then (moultlaw12_MergeNeeds.l0L x1 x2 x8 x10 (wrap64 (x11 + 1))) else (if (rd_T36 x10 x11).f2 = true then (some false) else (moultlaw12_MergeNeeds.l0L x1 x2 x8 x10 (wrap64 (x11 + 1))))) else (moultlaw12_MergeNeeds.l0L x1 x2 x8 x10 (wrap64 (x11 + 1)))) else (some false)) else (none)) else (none)) else (none)) else (none))) := by
  refine (moultlaw12_MergeNeeds.l1_lim x1 x2 x8 x10 x11 x12 x13).unique (IsLim.succ (fun k => (moultlaw12_MergeNeeds.mono_l k).2.2 x1 x2 x8 x10 x11 x12 x13) ?_)
  simp only [moultlaw12_MergeNeeds.l1]
  repeat' first | with_reducible exact IsLim.const _ | with_reducible refine IsLim.ite ?_ ?_ | with_reducible refine IsLim.bind ?_ (fun _ => ?_) | exact moultlaw12_MergeNeeds.l1_lim _ _ _ _ _ _ _ | exact moultlaw12_newest.f_lim _ _ _ _ _ _ | exact moultlaw12_MergeNeeds.l0_lim _ _ _ _ _ | exact IsLim.const _
set_option maxRecDepth 10000 in
theorem moultlaw12_MergeNeeds.fL_eq (l0 : List (S36)) (l1 : List Int) (a2 : Bool) : moultlaw12_MergeNeeds.fL l0 l1 a2 = (moultlaw12_shown.fL).bind fun t616 => ((moultlaw12_rows.fL (([l0] : List (List (S36))))).bind fun bt620 => (if t616 = true then (if bt620.2 = true then (moultlaw12_MergeNeeds.j0L l1 a2 t616 bt620.1 (decide ((l1.length : Int) > 20))) else (moultlaw12_MergeNeeds.j0L l1 a2 t616 bt620.1 true)) else (moultlaw12_MergeNeeds.j0L l1 a2 t616 bt620.1 true))) := by
  refine (moultlaw12_MergeNeeds.f_lim l0 l1 a2).unique ?_
  simp only [moultlaw12_MergeNeeds.f]
  repeat' first | with_reducible exact IsLim.const _ | with_reducible refine IsLim.ite ?_ ?_ | with_reducible refine IsLim.bind ?_ (fun _ => ?_) | exact moultlaw12_shown.f_lim | exact moultlaw12_rows.f_lim _ | exact moultlaw12_MergeNeeds.j0_lim _ _ _ _ _ | exact IsLim.const _
end Go.Proofs.Ythdoanbadhfhjaa.PAll
