/- Printed functions without a bound on rounds, and their equations: laid by genlim.py (a program of the session). -/
import Derived.Test.YthdoanbadhfhjaaPAllx17
import Derived.Test.YthdoanbadhfhjaaLi
import Derived.Test.YthdoanbadhfhjaaLa
import Derived.Test.YthdoanbadhfhjaaLh
namespace Go.Proofs.Ythdoanbadhfhjaa.PAll
open Go.Proofs.Ythdoanbadhfhjaa Go.RowKit Go.Proofs.YthdoanbadhfhjaaW.PrintWords Go.Proofs.YthdoanbadhfhjaaW.PrintLast Go.Proofs.YthdoanbadhfhjaaW.PrintMore
set_option linter.unusedVariables false

noncomputable def moultlaw12_MergeThins.j0L (x1 : List Int) (x2 : Bool) (x7 : Bool) (x8 : List (List (S36))) (x30 : Bool) : Option (Bool) := lim (fun k => moultlaw12_MergeThins.j0 k x1 x2 x7 x8 x30)
theorem moultlaw12_MergeThins.j0_lim (x1 : List Int) (x2 : Bool) (x7 : Bool) (x8 : List (List (S36))) (x30 : Bool) : IsLim (fun k => moultlaw12_MergeThins.j0 k x1 x2 x7 x8 x30) (moultlaw12_MergeThins.j0L x1 x2 x7 x8 x30) := isLim_lim (fun k => (moultlaw12_MergeThins.mono_l k).1 x1 x2 x7 x8 x30)
noncomputable def moultlaw12_MergeThins.j1L (x1 : List Int) (x2 : Bool) (x8 : List (List (S36))) (x10 : List (S36)) (x59 : Bool) : Option (Bool) := lim (fun k => moultlaw12_MergeThins.j1 k x1 x2 x8 x10 x59)
theorem moultlaw12_MergeThins.j1_lim (x1 : List Int) (x2 : Bool) (x8 : List (List (S36))) (x10 : List (S36)) (x59 : Bool) : IsLim (fun k => moultlaw12_MergeThins.j1 k x1 x2 x8 x10 x59) (moultlaw12_MergeThins.j1L x1 x2 x8 x10 x59) := isLim_lim (fun k => (moultlaw12_MergeThins.mono_l k).2.1 x1 x2 x8 x10 x59)
noncomputable def moultlaw12_MergeThins.l0L (x1 : List Int) (x2 : Bool) (x8 : List (List (S36))) (x10 : List (S36)) (x11 : Int) : Option (Bool) := lim (fun k => moultlaw12_MergeThins.l0 k x1 x2 x8 x10 x11)
theorem moultlaw12_MergeThins.l0_lim (x1 : List Int) (x2 : Bool) (x8 : List (List (S36))) (x10 : List (S36)) (x11 : Int) : IsLim (fun k => moultlaw12_MergeThins.l0 k x1 x2 x8 x10 x11) (moultlaw12_MergeThins.l0L x1 x2 x8 x10 x11) := isLim_lim (fun k => (moultlaw12_MergeThins.mono_l k).2.2.1 x1 x2 x8 x10 x11)
noncomputable def moultlaw12_MergeThins.l1L (x1 : List Int) (x2 : Bool) (x8 : List (List (S36))) (x10 : List (S36)) (x12 : Int) : Option (Bool) := lim (fun k => moultlaw12_MergeThins.l1 k x1 x2 x8 x10 x12)
theorem moultlaw12_MergeThins.l1_lim (x1 : List Int) (x2 : Bool) (x8 : List (List (S36))) (x10 : List (S36)) (x12 : Int) : IsLim (fun k => moultlaw12_MergeThins.l1 k x1 x2 x8 x10 x12) (moultlaw12_MergeThins.l1L x1 x2 x8 x10 x12) := isLim_lim (fun k => (moultlaw12_MergeThins.mono_l k).2.2.2 x1 x2 x8 x10 x12)
noncomputable def moultlaw12_MergeThins.fL (l0 : List (S36)) (l1 : List Int) (a2 : Bool) : Option (Bool) := lim (fun k => moultlaw12_MergeThins.f k l0 l1 a2)
theorem moultlaw12_MergeThins.f_lim (l0 : List (S36)) (l1 : List Int) (a2 : Bool) : IsLim (fun k => moultlaw12_MergeThins.f k l0 l1 a2) (moultlaw12_MergeThins.fL l0 l1 a2) := isLim_lim (fun k => moultlaw12_MergeThins.mono l0 l1 a2 k)

set_option maxRecDepth 10000 in
theorem moultlaw12_MergeThins.j0L_eq (x1 : List Int) (x2 : Bool) (x7 : Bool) (x8 : List (List (S36))) (x30 : Bool) : moultlaw12_MergeThins.j0L x1 x2 x7 x8 x30 = if x30 = true then (some x7) else (if 0 < (x8.length : Int) then ((merge_Thin.fL (rd_L4 x8 0) x1 x2).bind fun t493 => ((merge_Visible.fL t493 1125899906842624).bind fun t496 => ((merge_Visible.fL (rd_L4 x8 0) 1125899906842624).bind fun t500 => ((moultlaw12_same.fL t496 t500).bind fun t503 => (if t503 = true then (if (t493.length : Int) > ((rd_L4 x8 0).length : Int) then (moultlaw12_MergeThins.j1L x1 x2 x8 t493 true) else ((merge_Sorted.fL t493).bind fun t505 => (moultlaw12_MergeThins.j1L x1 x2 x8 t493 (!t505)))) else (moultlaw12_MergeThins.j1L x1 x2 x8 t493 true)))))) else (none)) := by
  refine (moultlaw12_MergeThins.j0_lim x1 x2 x7 x8 x30).unique (IsLim.succ (fun k => (moultlaw12_MergeThins.mono_l k).1 x1 x2 x7 x8 x30) ?_)
  simp only [moultlaw12_MergeThins.j0]
  repeat' first | with_reducible exact IsLim.const _ | with_reducible refine IsLim.ite ?_ ?_ | with_reducible refine IsLim.bind ?_ (fun _ => ?_) | exact merge_Thin.f_lim _ _ _ | exact merge_Visible.f_lim _ _ | exact moultlaw12_same.f_lim _ _ | exact moultlaw12_MergeThins.j1_lim _ _ _ _ _ | exact merge_Sorted.f_lim _ | exact IsLim.const _
set_option maxRecDepth 10000 in
theorem moultlaw12_MergeThins.j1L_eq (x1 : List Int) (x2 : Bool) (x8 : List (List (S36))) (x10 : List (S36)) (x59 : Bool) : moultlaw12_MergeThins.j1L x1 x2 x8 x10 x59 = if x59 = true then (some false) else (moultlaw12_MergeThins.l0L x1 x2 x8 x10 0) := by
  refine (moultlaw12_MergeThins.j1_lim x1 x2 x8 x10 x59).unique (IsLim.succ (fun k => (moultlaw12_MergeThins.mono_l k).2.1 x1 x2 x8 x10 x59) ?_)
  simp only [moultlaw12_MergeThins.j1]
  repeat' first | with_reducible exact IsLim.const _ | with_reducible refine IsLim.ite ?_ ?_ | with_reducible refine IsLim.bind ?_ (fun _ => ?_) | exact moultlaw12_MergeThins.l0_lim _ _ _ _ _ | exact IsLim.const _
set_option maxRecDepth 10000 in
theorem moultlaw12_MergeThins.l0L_eq (x1 : List Int) (x2 : Bool) (x8 : List (List (S36))) (x10 : List (S36)) (x11 : Int) : moultlaw12_MergeThins.l0L x1 x2 x8 x10 x11 = if x11 < (x10.length : Int) then (if 0 ≤ x11 then ((moultlaw12_has.fL x8 ((rd_T36 x10 x11).f0) ((rd_T36 x10 x11).f1) ((rd_T36 x10 x11).f2) ((rd_T36 x10 x11).f3)).bind fun t507 => (if t507 = true then (moultlaw12_MergeThins.l0L x1 x2 x8 x10 (wrap64 (x11 + 1))) else (some false))) else (none)) else (moultlaw12_MergeThins.l1L x1 x2 x8 x10 0) := by
  refine (moultlaw12_MergeThins.l0_lim x1 x2 x8 x10 x11).unique (IsLim.succ (fun k => (moultlaw12_MergeThins.mono_l k).2.2.1 x1 x2 x8 x10 x11) ?_)
  simp only [moultlaw12_MergeThins.l0]
  repeat' first | with_reducible exact IsLim.const _ | with_reducible refine IsLim.ite ?_ ?_ | with_reducible refine IsLim.bind ?_ (fun _ => ?_) | exact moultlaw12_has.f_lim _ _ _ _ _ | exact moultlaw12_MergeThins.l0_lim _ _ _ _ _ | exact moultlaw12_MergeThins.l1_lim _ _ _ _ _ | exact IsLim.const _
set_option maxRecDepth 10000 in
theorem moultlaw12_MergeThins.l1L_eq (x1 : List Int) (x2 : Bool) (x8 : List (List (S36))) (x10 : List (S36)) (x12 : Int) : moultlaw12_MergeThins.l1L x1 x2 x8 x10 x12 = if x12 < (x1.length : Int) then (if 0 ≤ x12 then ((merge_Visible.fL x10 (rd x1 x12)).bind fun t516 => (if 0 < (x8.length : Int) then ((merge_Visible.fL (rd_L4 x8 0) (rd x1 x12)).bind fun t521 => ((moultlaw12_same.fL t516 t521).bind fun t524 => (if t524 = true then (moultlaw12_MergeThins.l1L x1 x2 x8 x10 (wrap64 (x12 + 1))) else (some false)))) else (none))) else (none)) else ((merge_Thin.fL x10 x1 x2).bind fun t508 => ((moultlaw12_same.fL t508 x10).bind fun t511 => (if t511 = true then ((merge_Thin.fL ([] : List (S36)) x1 x2).bind fun t512 => (some ((t512.length : Int) == 0))) else (some false)))) := by
  refine (moultlaw12_MergeThins.l1_lim x1 x2 x8 x10 x12).unique (IsLim.succ (fun k => (moultlaw12_MergeThins.mono_l k).2.2.2 x1 x2 x8 x10 x12) ?_)
  simp only [moultlaw12_MergeThins.l1]
  repeat' first | with_reducible exact IsLim.const _ | with_reducible refine IsLim.ite ?_ ?_ | with_reducible refine IsLim.bind ?_ (fun _ => ?_) | exact merge_Visible.f_lim _ _ | exact moultlaw12_same.f_lim _ _ | exact moultlaw12_MergeThins.l1_lim _ _ _ _ _ | exact merge_Thin.f_lim _ _ _ | exact IsLim.const _
set_option maxRecDepth 10000 in
theorem moultlaw12_MergeThins.fL_eq (l0 : List (S36)) (l1 : List Int) (a2 : Bool) : moultlaw12_MergeThins.fL l0 l1 a2 = (moultlaw12_shown.fL).bind fun t484 => ((moultlaw12_rows.fL (([l0] : List (List (S36))))).bind fun bt488 => (if t484 = true then (if bt488.2 = true then (moultlaw12_MergeThins.j0L l1 a2 t484 bt488.1 (decide ((l1.length : Int) > 20))) else (moultlaw12_MergeThins.j0L l1 a2 t484 bt488.1 true)) else (moultlaw12_MergeThins.j0L l1 a2 t484 bt488.1 true))) := by
  refine (moultlaw12_MergeThins.f_lim l0 l1 a2).unique ?_
  simp only [moultlaw12_MergeThins.f]
  repeat' first | with_reducible exact IsLim.const _ | with_reducible refine IsLim.ite ?_ ?_ | with_reducible refine IsLim.bind ?_ (fun _ => ?_) | exact moultlaw12_shown.f_lim | exact moultlaw12_rows.f_lim _ | exact moultlaw12_MergeThins.j0_lim _ _ _ _ _ | exact IsLim.const _
end Go.Proofs.Ythdoanbadhfhjaa.PAll
