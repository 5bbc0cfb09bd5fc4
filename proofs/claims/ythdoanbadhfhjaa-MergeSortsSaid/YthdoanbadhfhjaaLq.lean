/- Printed functions without a bound on rounds, and their equations: laid by genlim.py (a program of the session). -/
import Derived.Test.YthdoanbadhfhjaaPAllx22
import Derived.Test.YthdoanbadhfhjaaLi
import Derived.Test.YthdoanbadhfhjaaLa
namespace Go.Proofs.Ythdoanbadhfhjaa.PAll
open Go.Proofs.Ythdoanbadhfhjaa Go.RowKit Go.Proofs.YthdoanbadhfhjaaW.PrintWords Go.Proofs.YthdoanbadhfhjaaW.PrintLast Go.Proofs.YthdoanbadhfhjaaW.PrintMore
set_option linter.unusedVariables false

noncomputable def moultref12_Sorted.l0L (x0 : List (S36)) (x3 : Int) : Option (Bool) := lim (fun k => moultref12_Sorted.l0 k x0 x3)
theorem moultref12_Sorted.l0_lim (x0 : List (S36)) (x3 : Int) : IsLim (fun k => moultref12_Sorted.l0 k x0 x3) (moultref12_Sorted.l0L x0 x3) := isLim_lim (fun k => (moultref12_Sorted.mono_l k) x0 x3)
noncomputable def moultref12_Sorted.fL (l0 : List (S36)) : Option (Bool) := lim (fun k => moultref12_Sorted.f k l0)
theorem moultref12_Sorted.f_lim (l0 : List (S36)) : IsLim (fun k => moultref12_Sorted.f k l0) (moultref12_Sorted.fL l0) := isLim_lim (fun k => moultref12_Sorted.mono l0 k)

set_option maxRecDepth 10000 in
theorem moultref12_Sorted.l0L_eq (x0 : List (S36)) (x3 : Int) : moultref12_Sorted.l0L x0 x3 = if x3 < (x0.length : Int) then (if 0 ≤ (wrap64 (x3 - 1)) then (if (wrap64 (x3 - 1)) < (x0.length : Int) then (if 0 ≤ x3 then ((moultref10_Less.fL ((rd_T36 x0 (wrap64 (x3 - 1))).f0) ((rd_T36 x0 (wrap64 (x3 - 1))).f1) ((rd_T36 x0 (wrap64 (x3 - 1))).f2) ((rd_T36 x0 (wrap64 (x3 - 1))).f3) ((rd_T36 x0 x3).f0) ((rd_T36 x0 x3).f1) ((rd_T36 x0 x3).f2) ((rd_T36 x0 x3).f3)).bind fun t458 => (if t458 = true then (moultref12_Sorted.l0L x0 (wrap64 (x3 + 1))) else (some false))) else (none)) else (none)) else (none)) else (some true) := by
  refine (moultref12_Sorted.l0_lim x0 x3).unique (IsLim.succ (fun k => (moultref12_Sorted.mono_l k) x0 x3) ?_)
  simp only [moultref12_Sorted.l0]
  repeat' first | with_reducible exact IsLim.const _ | with_reducible refine IsLim.ite ?_ ?_ | with_reducible refine IsLim.bind ?_ (fun _ => ?_) | exact moultref10_Less.f_lim _ _ _ _ _ _ _ _ | exact moultref12_Sorted.l0_lim _ _ | exact IsLim.const _
set_option maxRecDepth 10000 in
theorem moultref12_Sorted.fL_eq (l0 : List (S36)) : moultref12_Sorted.fL l0 = moultref12_Sorted.l0L l0 1 := by
  refine (moultref12_Sorted.f_lim l0).unique ?_
  simp only [moultref12_Sorted.f]
  repeat' first | with_reducible exact IsLim.const _ | with_reducible refine IsLim.ite ?_ ?_ | with_reducible refine IsLim.bind ?_ (fun _ => ?_) | exact moultref12_Sorted.l0_lim _ _ | exact IsLim.const _
end Go.Proofs.Ythdoanbadhfhjaa.PAll
