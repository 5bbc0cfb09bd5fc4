/- Printed functions without a bound on rounds, and their equations: laid by genlim.py (a program of the session). -/
import Derived.Test.YthdoanbadhfhjaaPAllx16
import Derived.Test.YthdoanbadhfhjaaLi
import Derived.Test.YthdoanbadhfhjaaLa
import Derived.Test.YthdoanbadhfhjaaLh
import Derived.Test.YthdoanbadhfhjaaLq
namespace Go.Proofs.Ythdoanbadhfhjaa.PAll
open Go.Proofs.Ythdoanbadhfhjaa Go.RowKit Go.Proofs.YthdoanbadhfhjaaW.PrintWords Go.Proofs.YthdoanbadhfhjaaW.PrintLast Go.Proofs.YthdoanbadhfhjaaW.PrintMore
set_option linter.unusedVariables false

noncomputable def moultlaw12_MergeSorts.j0L (x1 : List (S36)) (x5 : Bool) (x6 : List (List (S36))) (x30 : Bool) : Option (Bool) := lim (fun k => moultlaw12_MergeSorts.j0 k x1 x5 x6 x30)
theorem moultlaw12_MergeSorts.j0_lim (x1 : List (S36)) (x5 : Bool) (x6 : List (List (S36))) (x30 : Bool) : IsLim (fun k => moultlaw12_MergeSorts.j0 k x1 x5 x6 x30) (moultlaw12_MergeSorts.j0L x1 x5 x6 x30) := isLim_lim (fun k => (moultlaw12_MergeSorts.mono_l k).1 x1 x5 x6 x30)
noncomputable def moultlaw12_MergeSorts.l0L (x6 : List (List (S36))) (x9 : List (S36)) (x10 : Int) : Option (Bool) := lim (fun k => moultlaw12_MergeSorts.l0 k x6 x9 x10)
theorem moultlaw12_MergeSorts.l0_lim (x6 : List (List (S36))) (x9 : List (S36)) (x10 : Int) : IsLim (fun k => moultlaw12_MergeSorts.l0 k x6 x9 x10) (moultlaw12_MergeSorts.l0L x6 x9 x10) := isLim_lim (fun k => (moultlaw12_MergeSorts.mono_l k).2.1 x6 x9 x10)
noncomputable def moultlaw12_MergeSorts.l1L (x6 : List (List (S36))) (x9 : List (S36)) (x11 : Int) : Option (Bool) := lim (fun k => moultlaw12_MergeSorts.l1 k x6 x9 x11)
theorem moultlaw12_MergeSorts.l1_lim (x6 : List (List (S36))) (x9 : List (S36)) (x11 : Int) : IsLim (fun k => moultlaw12_MergeSorts.l1 k x6 x9 x11) (moultlaw12_MergeSorts.l1L x6 x9 x11) := isLim_lim (fun k => (moultlaw12_MergeSorts.mono_l k).2.2.1 x6 x9 x11)
noncomputable def moultlaw12_MergeSorts.l2L (x6 : List (List (S36))) (x9 : List (S36)) (x11 : Int) (x12 : Int) : Option (Bool) := lim (fun k => moultlaw12_MergeSorts.l2 k x6 x9 x11 x12)
theorem moultlaw12_MergeSorts.l2_lim (x6 : List (List (S36))) (x9 : List (S36)) (x11 : Int) (x12 : Int) : IsLim (fun k => moultlaw12_MergeSorts.l2 k x6 x9 x11 x12) (moultlaw12_MergeSorts.l2L x6 x9 x11 x12) := isLim_lim (fun k => (moultlaw12_MergeSorts.mono_l k).2.2.2 x6 x9 x11 x12)
noncomputable def moultlaw12_MergeSorts.fL (l0 : List (List (S36))) (l1 : List (S36)) : Option (Bool) := lim (fun k => moultlaw12_MergeSorts.f k l0 l1)
theorem moultlaw12_MergeSorts.f_lim (l0 : List (List (S36))) (l1 : List (S36)) : IsLim (fun k => moultlaw12_MergeSorts.f k l0 l1) (moultlaw12_MergeSorts.fL l0 l1) := isLim_lim (fun k => moultlaw12_MergeSorts.mono l0 l1 k)

set_option maxRecDepth 10000 in
theorem moultlaw12_MergeSorts.j0L_eq (x1 : List (S36)) (x5 : Bool) (x6 : List (List (S36))) (x30 : Bool) : moultlaw12_MergeSorts.j0L x1 x5 x6 x30 = if x30 = true then (some x5) else ((merge_Sorted.fL x1).bind fun t472 => ((moultref12_Sorted.fL x1).bind fun t473 => (if (t472 != t473) = true then (some false) else ((merge_Merge.fL x6).bind fun t474 => ((merge_Sorted.fL t474).bind fun t477 => (if t477 = true then (moultlaw12_MergeSorts.l0L x6 t474 0) else (some false))))))) := by
  refine (moultlaw12_MergeSorts.j0_lim x1 x5 x6 x30).unique (IsLim.succ (fun k => (moultlaw12_MergeSorts.mono_l k).1 x1 x5 x6 x30) ?_)
  simp only [moultlaw12_MergeSorts.j0]
  repeat' first | with_reducible exact IsLim.const _ | with_reducible refine IsLim.ite ?_ ?_ | with_reducible refine IsLim.bind ?_ (fun _ => ?_) | exact merge_Sorted.f_lim _ | exact moultref12_Sorted.f_lim _ | exact merge_Merge.f_lim _ | exact moultlaw12_MergeSorts.l0_lim _ _ _ | exact IsLim.const _
set_option maxRecDepth 10000 in
theorem moultlaw12_MergeSorts.l0L_eq (x6 : List (List (S36))) (x9 : List (S36)) (x10 : Int) : moultlaw12_MergeSorts.l0L x6 x9 x10 = if x10 < (x9.length : Int) then (if 0 ≤ x10 then ((moultlaw12_has.fL x6 ((rd_T36 x9 x10).f0) ((rd_T36 x9 x10).f1) ((rd_T36 x9 x10).f2) ((rd_T36 x9 x10).f3)).bind fun t479 => (if t479 = true then (moultlaw12_MergeSorts.l0L x6 x9 (wrap64 (x10 + 1))) else (some false))) else (none)) else (moultlaw12_MergeSorts.l1L x6 x9 0) := by
  refine (moultlaw12_MergeSorts.l0_lim x6 x9 x10).unique (IsLim.succ (fun k => (moultlaw12_MergeSorts.mono_l k).2.1 x6 x9 x10) ?_)
  simp only [moultlaw12_MergeSorts.l0]
  repeat' first | with_reducible exact IsLim.const _ | with_reducible refine IsLim.ite ?_ ?_ | with_reducible refine IsLim.bind ?_ (fun _ => ?_) | exact moultlaw12_has.f_lim _ _ _ _ _ | exact moultlaw12_MergeSorts.l0_lim _ _ _ | exact moultlaw12_MergeSorts.l1_lim _ _ _ | exact IsLim.const _
set_option maxRecDepth 10000 in
theorem moultlaw12_MergeSorts.l1L_eq (x6 : List (List (S36))) (x9 : List (S36)) (x11 : Int) : moultlaw12_MergeSorts.l1L x6 x9 x11 = if x11 < (x6.length : Int) then (moultlaw12_MergeSorts.l2L x6 x9 x11 0) else (some true) := by
  refine (moultlaw12_MergeSorts.l1_lim x6 x9 x11).unique (IsLim.succ (fun k => (moultlaw12_MergeSorts.mono_l k).2.2.1 x6 x9 x11) ?_)
  simp only [moultlaw12_MergeSorts.l1]
  repeat' first | with_reducible exact IsLim.const _ | with_reducible refine IsLim.ite ?_ ?_ | with_reducible refine IsLim.bind ?_ (fun _ => ?_) | exact moultlaw12_MergeSorts.l2_lim _ _ _ _ | exact IsLim.const _
set_option maxRecDepth 10000 in
theorem moultlaw12_MergeSorts.l2L_eq (x6 : List (List (S36))) (x9 : List (S36)) (x11 : Int) (x12 : Int) : moultlaw12_MergeSorts.l2L x6 x9 x11 x12 = if 0 ≤ x11 then (if x11 < (x6.length : Int) then (if x12 < ((rd_L4 x6 x11).length : Int) then (if 0 ≤ x12 then ((moultlaw12_known.fL x9 ((rd_T36 (rd_L4 x6 x11) x12).f0) ((rd_T36 (rd_L4 x6 x11) x12).f1) ((rd_T36 (rd_L4 x6 x11) x12).f2) ((rd_T36 (rd_L4 x6 x11) x12).f3)).bind fun t483 => (if t483 = true then (moultlaw12_MergeSorts.l2L x6 x9 x11 (wrap64 (x12 + 1))) else (some false))) else (none)) else (moultlaw12_MergeSorts.l1L x6 x9 (wrap64 (x11 + 1)))) else (none)) else (none) := by
  refine (moultlaw12_MergeSorts.l2_lim x6 x9 x11 x12).unique (IsLim.succ (fun k => (moultlaw12_MergeSorts.mono_l k).2.2.2 x6 x9 x11 x12) ?_)
  simp only [moultlaw12_MergeSorts.l2]
  repeat' first | with_reducible exact IsLim.const _ | with_reducible refine IsLim.ite ?_ ?_ | with_reducible refine IsLim.bind ?_ (fun _ => ?_) | exact moultlaw12_known.f_lim _ _ _ _ _ | exact moultlaw12_MergeSorts.l2_lim _ _ _ _ | exact moultlaw12_MergeSorts.l1_lim _ _ _ | exact IsLim.const _
set_option maxRecDepth 10000 in
theorem moultlaw12_MergeSorts.fL_eq (l0 : List (List (S36))) (l1 : List (S36)) : moultlaw12_MergeSorts.fL l0 l1 = (moultlaw12_shown.fL).bind fun t466 => ((moultlaw12_rows.fL l0).bind fun bt467 => ((moultlaw12_small.fL l1).bind fun t471 => (if t466 = true then (if bt467.2 = true then (moultlaw12_MergeSorts.j0L l1 t466 bt467.1 (!t471)) else (moultlaw12_MergeSorts.j0L l1 t466 bt467.1 true)) else (moultlaw12_MergeSorts.j0L l1 t466 bt467.1 true)))) := by
  refine (moultlaw12_MergeSorts.f_lim l0 l1).unique ?_
  simp only [moultlaw12_MergeSorts.f]
  repeat' first | with_reducible exact IsLim.const _ | with_reducible refine IsLim.ite ?_ ?_ | with_reducible refine IsLim.bind ?_ (fun _ => ?_) | exact moultlaw12_shown.f_lim | exact moultlaw12_rows.f_lim _ | exact moultlaw12_small.f_lim _ | exact moultlaw12_MergeSorts.j0_lim _ _ _ _ | exact IsLim.const _
end Go.Proofs.Ythdoanbadhfhjaa.PAll
