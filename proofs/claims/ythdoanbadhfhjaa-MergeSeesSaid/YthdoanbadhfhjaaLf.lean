/- Printed functions without a bound on rounds, and their equations: laid by genlim.py (a program of the session). -/
import Derived.Test.YthdoanbadhfhjaaPAllx19
import Derived.Test.YthdoanbadhfhjaaLi
import Derived.Test.YthdoanbadhfhjaaLa
import Derived.Test.YthdoanbadhfhjaaLh
namespace Go.Proofs.Ythdoanbadhfhjaa.PAll
open Go.Proofs.Ythdoanbadhfhjaa Go.RowKit Go.Proofs.YthdoanbadhfhjaaW.PrintWords Go.Proofs.YthdoanbadhfhjaaW.PrintLast Go.Proofs.YthdoanbadhfhjaaW.PrintMore
set_option linter.unusedVariables false

noncomputable def moultlaw12_MergeSees.l0L (x1 : Int) (x6 : List (List (S36))) (x8 : List (S36)) (x9 : Int) : Option (Bool) := lim (fun k => moultlaw12_MergeSees.l0 k x1 x6 x8 x9)
theorem moultlaw12_MergeSees.l0_lim (x1 : Int) (x6 : List (List (S36))) (x8 : List (S36)) (x9 : Int) : IsLim (fun k => moultlaw12_MergeSees.l0 k x1 x6 x8 x9) (moultlaw12_MergeSees.l0L x1 x6 x8 x9) := isLim_lim (fun k => (moultlaw12_MergeSees.mono_l k).1 x1 x6 x8 x9)
noncomputable def moultlaw12_MergeSees.j1L (x1 : Int) (x6 : List (List (S36))) (x8 : List (S36)) (x9 : Int) (x77 : Bool) : Option (Bool) := lim (fun k => moultlaw12_MergeSees.j1 k x1 x6 x8 x9 x77)
theorem moultlaw12_MergeSees.j1_lim (x1 : Int) (x6 : List (List (S36))) (x8 : List (S36)) (x9 : Int) (x77 : Bool) : IsLim (fun k => moultlaw12_MergeSees.j1 k x1 x6 x8 x9 x77) (moultlaw12_MergeSees.j1L x1 x6 x8 x9 x77) := isLim_lim (fun k => (moultlaw12_MergeSees.mono_l k).2.1 x1 x6 x8 x9 x77)
noncomputable def moultlaw12_MergeSees.l1L (x1 : Int) (x6 : List (List (S36))) (x8 : List (S36)) (x9 : Int) (x10 : Int) : Option (Bool) := lim (fun k => moultlaw12_MergeSees.l1 k x1 x6 x8 x9 x10)
theorem moultlaw12_MergeSees.l1_lim (x1 : Int) (x6 : List (List (S36))) (x8 : List (S36)) (x9 : Int) (x10 : Int) : IsLim (fun k => moultlaw12_MergeSees.l1 k x1 x6 x8 x9 x10) (moultlaw12_MergeSees.l1L x1 x6 x8 x9 x10) := isLim_lim (fun k => (moultlaw12_MergeSees.mono_l k).2.2.1 x1 x6 x8 x9 x10)
noncomputable def moultlaw12_MergeSees.j3L (x1 : Int) (x6 : List (List (S36))) (x8 : List (S36)) (x9 : Int) (x10 : Int) (x124 : Bool) : Option (Bool) := lim (fun k => moultlaw12_MergeSees.j3 k x1 x6 x8 x9 x10 x124)
theorem moultlaw12_MergeSees.j3_lim (x1 : Int) (x6 : List (List (S36))) (x8 : List (S36)) (x9 : Int) (x10 : Int) (x124 : Bool) : IsLim (fun k => moultlaw12_MergeSees.j3 k x1 x6 x8 x9 x10 x124) (moultlaw12_MergeSees.j3L x1 x6 x8 x9 x10 x124) := isLim_lim (fun k => (moultlaw12_MergeSees.mono_l k).2.2.2 x1 x6 x8 x9 x10 x124)
noncomputable def moultlaw12_MergeSees.fL (l0 : List (S36)) (a1 : Int) : Option (Bool) := lim (fun k => moultlaw12_MergeSees.f k l0 a1)
theorem moultlaw12_MergeSees.f_lim (l0 : List (S36)) (a1 : Int) : IsLim (fun k => moultlaw12_MergeSees.f k l0 a1) (moultlaw12_MergeSees.fL l0 a1) := isLim_lim (fun k => moultlaw12_MergeSees.mono l0 a1 k)

set_option maxRecDepth 10000 in
theorem moultlaw12_MergeSees.l0L_eq (x1 : Int) (x6 : List (List (S36))) (x8 : List (S36)) (x9 : Int) : moultlaw12_MergeSees.l0L x1 x6 x8 x9 = if x9 < (x8.length : Int) then (if 0 ≤ x9 then (if (rd_T36 x8 x9).f2 = true then (none) else (if ((rd_T36 x8 x9).f1) > x1 then (none) else (if x9 > 0 then (if 0 ≤ (wrap64 (x9 - 1)) then (if (wrap64 (x9 - 1)) < (x8.length : Int) then (if ((Op.bytesLess (((rd_T36 x8 (wrap64 (x9 - 1))).f0).toList) (((rd_T36 x8 x9).f0).toList)) = true) then ((moultlaw12_has.fL x6 ((rd_T36 x8 x9).f0) ((rd_T36 x8 x9).f1) ((rd_T36 x8 x9).f2) ((rd_T36 x8 x9).f3)).bind fun t592 => (moultlaw12_MergeSees.j1L x1 x6 x8 x9 (!t592))) else (none)) else (none)) else (none)) else ((moultlaw12_has.fL x6 ((rd_T36 x8 x9).f0) ((rd_T36 x8 x9).f1) ((rd_T36 x8 x9).f2) ((rd_T36 x8 x9).f3)).bind fun t594 => (moultlaw12_MergeSees.j1L x1 x6 x8 x9 (!t594)))))) else (none)) else ((merge_Visible.fL x8 x1).bind fun t604 => ((moultlaw12_same.fL t604 x8).bind fun t607 => (if t607 = true then (if 0 < (x6.length : Int) then ((merge_Visible.fL (rd_L4 x6 0) (-1)).bind fun t609 => (some ((t609.length : Int) == 0))) else (none)) else (none)))) := by
  refine (moultlaw12_MergeSees.l0_lim x1 x6 x8 x9).unique (IsLim.succ (fun k => (moultlaw12_MergeSees.mono_l k).1 x1 x6 x8 x9) ?_)
  simp only [moultlaw12_MergeSees.l0]
  repeat' first | with_reducible exact IsLim.const _ | with_reducible refine IsLim.ite ?_ ?_ | with_reducible refine IsLim.bind ?_ (fun _ => ?_) | exact moultlaw12_has.f_lim _ _ _ _ _ | exact moultlaw12_MergeSees.j1_lim _ _ _ _ _ | exact merge_Visible.f_lim _ _ | exact moultlaw12_same.f_lim _ _ | exact IsLim.const _
set_option maxRecDepth 10000 in
theorem moultlaw12_MergeSees.j1L_eq (x1 : Int) (x6 : List (List (S36))) (x8 : List (S36)) (x9 : Int) (x77 : Bool) : moultlaw12_MergeSees.j1L x1 x6 x8 x9 x77 = if x77 = true then (none) else (moultlaw12_MergeSees.l1L x1 x6 x8 x9 0) := by
  refine (moultlaw12_MergeSees.j1_lim x1 x6 x8 x9 x77).unique (IsLim.succ (fun k => (moultlaw12_MergeSees.mono_l k).2.1 x1 x6 x8 x9 x77) ?_)
  simp only [moultlaw12_MergeSees.j1]
  repeat' first | with_reducible exact IsLim.const _ | with_reducible refine IsLim.ite ?_ ?_ | with_reducible refine IsLim.bind ?_ (fun _ => ?_) | exact moultlaw12_MergeSees.l1_lim _ _ _ _ _ | exact IsLim.const _
set_option maxRecDepth 10000 in
theorem moultlaw12_MergeSees.l1L_eq (x1 : Int) (x6 : List (List (S36))) (x8 : List (S36)) (x9 : Int) (x10 : Int) : moultlaw12_MergeSees.l1L x1 x6 x8 x9 x10 = if 0 < (x6.length : Int) then (if x10 < ((rd_L4 x6 0).length : Int) then (if 0 ≤ x10 then (if 0 ≤ x9 then (if x9 < (x8.length : Int) then (if ((rd_T36 (rd_L4 x6 0) x10).f0).toList = ((rd_T36 x8 x9).f0).toList then (if ((rd_T36 (rd_L4 x6 0) x10).f1) > ((rd_T36 x8 x9).f1) then (moultlaw12_MergeSees.j3L x1 x6 x8 x9 x10 (decide (((rd_T36 (rd_L4 x6 0) x10).f1) ≤ x1))) else (moultlaw12_MergeSees.j3L x1 x6 x8 x9 x10 false)) else (moultlaw12_MergeSees.j3L x1 x6 x8 x9 x10 false)) else (none)) else (none)) else (none)) else (moultlaw12_MergeSees.l0L x1 x6 x8 (wrap64 (x9 + 1)))) else (none) := by
  refine (moultlaw12_MergeSees.l1_lim x1 x6 x8 x9 x10).unique (IsLim.succ (fun k => (moultlaw12_MergeSees.mono_l k).2.2.1 x1 x6 x8 x9 x10) ?_)
  simp only [moultlaw12_MergeSees.l1]
  repeat' first | with_reducible exact IsLim.const _ | with_reducible refine IsLim.ite ?_ ?_ | with_reducible refine IsLim.bind ?_ (fun _ => ?_) | exact moultlaw12_MergeSees.j3_lim _ _ _ _ _ _ | exact moultlaw12_MergeSees.l0_lim _ _ _ _ | exact IsLim.const _
set_option maxRecDepth 10000 in
theorem moultlaw12_MergeSees.j3L_eq (x1 : Int) (x6 : List (List (S36))) (x8 : List (S36)) (x9 : Int) (x10 : Int) (x124 : Bool) : moultlaw12_MergeSees.j3L x1 x6 x8 x9 x10 x124 = if x124 = true then (none) else (moultlaw12_MergeSees.l1L x1 x6 x8 x9 (wrap64 (x10 + 1))) := by
  refine (moultlaw12_MergeSees.j3_lim x1 x6 x8 x9 x10 x124).unique (IsLim.succ (fun k => (moultlaw12_MergeSees.mono_l k).2.2.2 x1 x6 x8 x9 x10 x124) ?_)
  simp only [moultlaw12_MergeSees.j3]
  repeat' first | with_reducible exact IsLim.const _ | with_reducible refine IsLim.ite ?_ ?_ | with_reducible refine IsLim.bind ?_ (fun _ => ?_) | exact moultlaw12_MergeSees.l1_lim _ _ _ _ _ | exact IsLim.const _
set_option maxRecDepth 10000 in
theorem moultlaw12_MergeSees.fL_eq (l0 : List (S36)) (a1 : Int) : moultlaw12_MergeSees.fL l0 a1 = (moultlaw12_shown.fL).bind fun t575 => ((moultlaw12_rows.fL (([l0] : List (List (S36))))).bind fun bt579 => (if t575 = true then (if bt579.2 = true then (if 0 < (bt579.1.length : Int) then ((merge_Visible.fL (rd_L4 bt579.1 0) a1).bind fun t584 => (moultlaw12_MergeSees.l0L a1 bt579.1 t584 0)) else (none)) else (some t575)) else (none))) := by
  refine (moultlaw12_MergeSees.f_lim l0 a1).unique ?_
  simp only [moultlaw12_MergeSees.f]
  repeat' first | with_reducible exact IsLim.const _ | with_reducible refine IsLim.ite ?_ ?_ | with_reducible refine IsLim.bind ?_ (fun _ => ?_) | exact moultlaw12_shown.f_lim | exact moultlaw12_rows.f_lim _ | exact merge_Visible.f_lim _ _ | exact moultlaw12_MergeSees.l0_lim _ _ _ _ | exact IsLim.const _
end Go.Proofs.Ythdoanbadhfhjaa.PAll
