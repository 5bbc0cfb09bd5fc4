/- Printed functions without a bound on rounds, and their equations: laid by genlim.py (a program of the session). -/
import Derived.Test.YthdoanbadhfhjaaPAllx20
import Derived.Test.YthdoanbadhfhjaaLi
import Derived.Test.YthdoanbadhfhjaaLa
namespace Go.Proofs.Ythdoanbadhfhjaa.PAll
open Go.Proofs.Ythdoanbadhfhjaa Go.RowKit Go.Proofs.YthdoanbadhfhjaaW.PrintWords Go.Proofs.YthdoanbadhfhjaaW.PrintLast Go.Proofs.YthdoanbadhfhjaaW.PrintMore
set_option linter.unusedVariables false

noncomputable def moultlaw12_newest.l0L (x0 : List (S36)) (x2 : Int) (x7 : Int) (x613000 : ByteArray) (x613001 : Int) (x613002 : Bool) (x613003 : ByteArray) : Option (Bool) := lim (fun k => moultlaw12_newest.l0 k x0 x2 x7 x613000 x613001 x613002 x613003)
theorem moultlaw12_newest.l0_lim (x0 : List (S36)) (x2 : Int) (x7 : Int) (x613000 : ByteArray) (x613001 : Int) (x613002 : Bool) (x613003 : ByteArray) : IsLim (fun k => moultlaw12_newest.l0 k x0 x2 x7 x613000 x613001 x613002 x613003) (moultlaw12_newest.l0L x0 x2 x7 x613000 x613001 x613002 x613003) := isLim_lim (fun k => (moultlaw12_newest.mono_l k) x0 x2 x7 x613000 x613001 x613002 x613003)
noncomputable def moultlaw12_newest.fL (l0 : List (S36)) (a1_0 : ByteArray) (a1_1 : Int) (a1_2 : Bool) (a1_3 : ByteArray) (a2 : Int) : Option (Bool) := lim (fun k => moultlaw12_newest.f k l0 a1_0 a1_1 a1_2 a1_3 a2)
theorem moultlaw12_newest.f_lim (l0 : List (S36)) (a1_0 : ByteArray) (a1_1 : Int) (a1_2 : Bool) (a1_3 : ByteArray) (a2 : Int) : IsLim (fun k => moultlaw12_newest.f k l0 a1_0 a1_1 a1_2 a1_3 a2) (moultlaw12_newest.fL l0 a1_0 a1_1 a1_2 a1_3 a2) := isLim_lim (fun k => moultlaw12_newest.mono l0 a1_0 a1_1 a1_2 a1_3 a2 k)

set_option maxRecDepth 10000 in
theorem moultlaw12_newest.l0L_eq (x0 : List (S36)) (x2 : Int) (x7 : Int) (x613000 : ByteArray) (x613001 : Int) (x613002 : Bool) (x613003 : ByteArray) : moultlaw12_newest.l0L x0 x2 x7 x613000 x613001 x613002 x613003 = if x7 < (x0.length : Int) then (if 0 ≤ x7 then (if ((rd_T36 x0 x7).f0).toList = x613000.toList then (if ((rd_T36 x0 x7).f1) ≤ x2 then (if ((rd_T36 x0 x7).f1) > x613001 then (some false) else (moultlaw12_newest.l0L x0 x2 (wrap64 (x7 + 1)) x613000 x613001 x613002 x613003)) else (moultlaw12_newest.l0L x0 x2 (wrap64 (x7 + 1)) x613000 x613001 x613002 x613003)) else (moultlaw12_newest.l0L x0 x2 (wrap64 (x7 + 1)) x613000 x613001 x613002 x613003)) else (none)) else (some (decide (x613001 ≤ x2))) := by
  refine (moultlaw12_newest.l0_lim x0 x2 x7 x613000 x613001 x613002 x613003).unique (IsLim.succ (fun k => (moultlaw12_newest.mono_l k) x0 x2 x7 x613000 x613001 x613002 x613003) ?_)
  simp only [moultlaw12_newest.l0]
  repeat' first | with_reducible exact IsLim.const _ | with_reducible refine IsLim.ite ?_ ?_ | with_reducible refine IsLim.bind ?_ (fun _ => ?_) | exact moultlaw12_newest.l0_lim _ _ _ _ _ _ _ | exact IsLim.const _
set_option maxRecDepth 10000 in
theorem moultlaw12_newest.fL_eq (l0 : List (S36)) (a1_0 : ByteArray) (a1_1 : Int) (a1_2 : Bool) (a1_3 : ByteArray) (a2 : Int) : moultlaw12_newest.fL l0 a1_0 a1_1 a1_2 a1_3 a2 = moultlaw12_newest.l0L l0 a2 0 a1_0 a1_1 a1_2 a1_3 := by
  refine (moultlaw12_newest.f_lim l0 a1_0 a1_1 a1_2 a1_3 a2).unique ?_
  simp only [moultlaw12_newest.f]
  repeat' first | with_reducible exact IsLim.const _ | with_reducible refine IsLim.ite ?_ ?_ | with_reducible refine IsLim.bind ?_ (fun _ => ?_) | exact moultlaw12_newest.l0_lim _ _ _ _ _ _ _ | exact IsLim.const _
end Go.Proofs.Ythdoanbadhfhjaa.PAll
