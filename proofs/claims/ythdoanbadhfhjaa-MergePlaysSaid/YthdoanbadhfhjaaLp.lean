/- Printed functions without a bound on rounds, and their equations: laid by genlim.py (a program of the session). -/
import Derived.Test.YthdoanbadhfhjaaPAllx14
import Derived.Test.YthdoanbadhfhjaaLi
import Derived.Test.YthdoanbadhfhjaaLa
import Derived.Test.YthdoanbadhfhjaaLr
namespace Go.Proofs.Ythdoanbadhfhjaa.PAll
open Go.Proofs.Ythdoanbadhfhjaa Go.RowKit Go.Proofs.YthdoanbadhfhjaaW.PrintWords Go.Proofs.YthdoanbadhfhjaaW.PrintLast Go.Proofs.YthdoanbadhfhjaaW.PrintMore
set_option linter.unusedVariables false

noncomputable def moultlaw12_MergePlays.j0L (x1 : Int) (x2 : List Int) (x3 : Bool) (x9 : Bool) (x10 : List (List (S36))) (x30 : Bool) : Option (Bool) := lim (fun k => moultlaw12_MergePlays.j0 k x1 x2 x3 x9 x10 x30)
theorem moultlaw12_MergePlays.j0_lim (x1 : Int) (x2 : List Int) (x3 : Bool) (x9 : Bool) (x10 : List (List (S36))) (x30 : Bool) : IsLim (fun k => moultlaw12_MergePlays.j0 k x1 x2 x3 x9 x10 x30) (moultlaw12_MergePlays.j0L x1 x2 x3 x9 x10 x30) := isLim_lim (fun k => (moultlaw12_MergePlays.mono_l k) x1 x2 x3 x9 x10 x30)
noncomputable def moultlaw12_MergePlays.fL (l0 : List (List (S36))) (a1 : Int) (l2 : List Int) (a3 : Bool) : Option (Bool) := lim (fun k => moultlaw12_MergePlays.f k l0 a1 l2 a3)
theorem moultlaw12_MergePlays.f_lim (l0 : List (List (S36))) (a1 : Int) (l2 : List Int) (a3 : Bool) : IsLim (fun k => moultlaw12_MergePlays.f k l0 a1 l2 a3) (moultlaw12_MergePlays.fL l0 a1 l2 a3) := isLim_lim (fun k => moultlaw12_MergePlays.mono l0 a1 l2 a3 k)

set_option maxRecDepth 10000 in
theorem moultlaw12_MergePlays.j0L_eq (x1 : Int) (x2 : List Int) (x3 : Bool) (x9 : Bool) (x10 : List (List (S36))) (x30 : Bool) : moultlaw12_MergePlays.j0L x1 x2 x3 x9 x10 x30 = if x30 = true then (some x9) else ((merge_Merge.fL x10).bind fun t435 => ((moultref12_Merge.fL x10).bind fun t438 => ((moultlaw12_same.fL t435 t438).bind fun t441 => (if t441 = true then ((merge_Visible.fL t438 x1).bind fun t442 => ((moultref12_Visible.fL t438 x1).bind fun t445 => ((moultlaw12_same.fL t442 t445).bind fun t448 => (if t448 = true then ((merge_Thin.fL t438 x2 x3).bind fun t449 => ((moultref12_Thin.fL t438 x2 x3).bind fun t452 => ((moultlaw12_same.fL t449 t452).bind fun t455 => (some t455)))) else (some false))))) else (some false))))) := by
  refine (moultlaw12_MergePlays.j0_lim x1 x2 x3 x9 x10 x30).unique (IsLim.succ (fun k => (moultlaw12_MergePlays.mono_l k) x1 x2 x3 x9 x10 x30) ?_)
  simp only [moultlaw12_MergePlays.j0]
  repeat' first | with_reducible exact IsLim.const _ | with_reducible refine IsLim.ite ?_ ?_ | with_reducible refine IsLim.bind ?_ (fun _ => ?_) | exact merge_Merge.f_lim _ | exact moultref12_Merge.f_lim _ | exact moultlaw12_same.f_lim _ _ | exact merge_Visible.f_lim _ _ | exact moultref12_Visible.f_lim _ _ | exact merge_Thin.f_lim _ _ _ | exact moultref12_Thin.f_lim _ _ _ | exact IsLim.const _
set_option maxRecDepth 10000 in
theorem moultlaw12_MergePlays.fL_eq (l0 : List (List (S36))) (a1 : Int) (l2 : List Int) (a3 : Bool) : moultlaw12_MergePlays.fL l0 a1 l2 a3 = (moultlaw12_shown.fL).bind fun t430 => ((moultlaw12_rows.fL l0).bind fun bt431 => (if t430 = true then (if bt431.2 = true then (moultlaw12_MergePlays.j0L a1 l2 a3 t430 bt431.1 (decide ((l2.length : Int) > 20))) else (moultlaw12_MergePlays.j0L a1 l2 a3 t430 bt431.1 true)) else (moultlaw12_MergePlays.j0L a1 l2 a3 t430 bt431.1 true))) := by
  refine (moultlaw12_MergePlays.f_lim l0 a1 l2 a3).unique ?_
  simp only [moultlaw12_MergePlays.f]
  repeat' first | with_reducible exact IsLim.const _ | with_reducible refine IsLim.ite ?_ ?_ | with_reducible refine IsLim.bind ?_ (fun _ => ?_) | exact moultlaw12_shown.f_lim | exact moultlaw12_rows.f_lim _ | exact moultlaw12_MergePlays.j0_lim _ _ _ _ _ _ | exact IsLim.const _
end Go.Proofs.Ythdoanbadhfhjaa.PAll
