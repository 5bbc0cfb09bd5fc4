/- Printed functions without a bound on rounds, and their equations: laid by genlim.py (a program of the session). -/
import Derived.Test.YthdoanbadhfhjaaPAllx15
import Derived.Test.YthdoanbadhfhjaaLi
import Derived.Test.YthdoanbadhfhjaaLa
namespace Go.Proofs.Ythdoanbadhfhjaa.PAll
open Go.Proofs.Ythdoanbadhfhjaa Go.RowKit Go.Proofs.YthdoanbadhfhjaaW.PrintWords Go.Proofs.YthdoanbadhfhjaaW.PrintLast Go.Proofs.YthdoanbadhfhjaaW.PrintMore
set_option linter.unusedVariables false

noncomputable def moultlaw12_has.l0L (x0 : List (List (S36))) (x5 : Int) (x460000 : ByteArray) (x460001 : Int) (x460002 : Bool) (x460003 : ByteArray) : Option (Bool) := lim (fun k => moultlaw12_has.l0 k x0 x5 x460000 x460001 x460002 x460003)
theorem moultlaw12_has.l0_lim (x0 : List (List (S36))) (x5 : Int) (x460000 : ByteArray) (x460001 : Int) (x460002 : Bool) (x460003 : ByteArray) : IsLim (fun k => moultlaw12_has.l0 k x0 x5 x460000 x460001 x460002 x460003) (moultlaw12_has.l0L x0 x5 x460000 x460001 x460002 x460003) := isLim_lim (fun k => (moultlaw12_has.mono_l k).1 x0 x5 x460000 x460001 x460002 x460003)
noncomputable def moultlaw12_has.l1L (x0 : List (List (S36))) (x5 : Int) (x6 : Int) (x460000 : ByteArray) (x460001 : Int) (x460002 : Bool) (x460003 : ByteArray) : Option (Bool) := lim (fun k => moultlaw12_has.l1 k x0 x5 x6 x460000 x460001 x460002 x460003)
theorem moultlaw12_has.l1_lim (x0 : List (List (S36))) (x5 : Int) (x6 : Int) (x460000 : ByteArray) (x460001 : Int) (x460002 : Bool) (x460003 : ByteArray) : IsLim (fun k => moultlaw12_has.l1 k x0 x5 x6 x460000 x460001 x460002 x460003) (moultlaw12_has.l1L x0 x5 x6 x460000 x460001 x460002 x460003) := isLim_lim (fun k => (moultlaw12_has.mono_l k).2 x0 x5 x6 x460000 x460001 x460002 x460003)
noncomputable def moultlaw12_has.fL (l0 : List (List (S36))) (a1_0 : ByteArray) (a1_1 : Int) (a1_2 : Bool) (a1_3 : ByteArray) : Option (Bool) := lim (fun k => moultlaw12_has.f k l0 a1_0 a1_1 a1_2 a1_3)
theorem moultlaw12_has.f_lim (l0 : List (List (S36))) (a1_0 : ByteArray) (a1_1 : Int) (a1_2 : Bool) (a1_3 : ByteArray) : IsLim (fun k => moultlaw12_has.f k l0 a1_0 a1_1 a1_2 a1_3) (moultlaw12_has.fL l0 a1_0 a1_1 a1_2 a1_3) := isLim_lim (fun k => moultlaw12_has.mono l0 a1_0 a1_1 a1_2 a1_3 k)
noncomputable def moultlaw12_known.l0L (x0 : List (S36)) (x5 : Int) (x464000 : ByteArray) (x464001 : Int) (x464002 : Bool) (x464003 : ByteArray) : Option (Bool) := lim (fun k => moultlaw12_known.l0 k x0 x5 x464000 x464001 x464002 x464003)
theorem moultlaw12_known.l0_lim (x0 : List (S36)) (x5 : Int) (x464000 : ByteArray) (x464001 : Int) (x464002 : Bool) (x464003 : ByteArray) : IsLim (fun k => moultlaw12_known.l0 k x0 x5 x464000 x464001 x464002 x464003) (moultlaw12_known.l0L x0 x5 x464000 x464001 x464002 x464003) := isLim_lim (fun k => (moultlaw12_known.mono_l k) x0 x5 x464000 x464001 x464002 x464003)
noncomputable def moultlaw12_known.fL (l0 : List (S36)) (a1_0 : ByteArray) (a1_1 : Int) (a1_2 : Bool) (a1_3 : ByteArray) : Option (Bool) := lim (fun k => moultlaw12_known.f k l0 a1_0 a1_1 a1_2 a1_3)
theorem moultlaw12_known.f_lim (l0 : List (S36)) (a1_0 : ByteArray) (a1_1 : Int) (a1_2 : Bool) (a1_3 : ByteArray) : IsLim (fun k => moultlaw12_known.f k l0 a1_0 a1_1 a1_2 a1_3) (moultlaw12_known.fL l0 a1_0 a1_1 a1_2 a1_3) := isLim_lim (fun k => moultlaw12_known.mono l0 a1_0 a1_1 a1_2 a1_3 k)

set_option maxRecDepth 10000 in
theorem moultlaw12_has.l0L_eq (x0 : List (List (S36))) (x5 : Int) (x460000 : ByteArray) (x460001 : Int) (x460002 : Bool) (x460003 : ByteArray) : moultlaw12_has.l0L x0 x5 x460000 x460001 x460002 x460003 = if x5 < (x0.length : Int) then (moultlaw12_has.l1L x0 x5 0 x460000 x460001 x460002 x460003) else (some false) := by
  refine (moultlaw12_has.l0_lim x0 x5 x460000 x460001 x460002 x460003).unique (IsLim.succ (fun k => (moultlaw12_has.mono_l k).1 x0 x5 x460000 x460001 x460002 x460003) ?_)
  simp only [moultlaw12_has.l0]
  repeat' first | with_reducible exact IsLim.const _ | with_reducible refine IsLim.ite ?_ ?_ | with_reducible refine IsLim.bind ?_ (fun _ => ?_) | exact moultlaw12_has.l1_lim _ _ _ _ _ _ _ | exact IsLim.const _
set_option maxRecDepth 10000 in
theorem moultlaw12_has.l1L_eq (x0 : List (List (S36))) (x5 : Int) (x6 : Int) (x460000 : ByteArray) (x460001 : Int) (x460002 : Bool) (x460003 : ByteArray) : moultlaw12_has.l1L x0 x5 x6 x460000 x460001 x460002 x460003 = if 0 ≤ x5 then (if x5 < (x0.length : Int) then (if x6 < ((rd_L4 x0 x5).length : Int) then (if 0 ≤ x6 then (if ((((rd_T36 (rd_L4 x0 x5) x6).f0).toList) == x460000.toList && (((rd_T36 (rd_L4 x0 x5) x6).f1) == x460001 && (((rd_T36 (rd_L4 x0 x5) x6).f2) == x460002 && ((((rd_T36 (rd_L4 x0 x5) x6).f3).toList) == x460003.toList)))) = true then (some true) else (moultlaw12_has.l1L x0 x5 (wrap64 (x6 + 1)) x460000 x460001 x460002 x460003)) else (none)) else (moultlaw12_has.l0L x0 (wrap64 (x5 + 1)) x460000 x460001 x460002 x460003)) else (none)) else (none) := by
  refine (moultlaw12_has.l1_lim x0 x5 x6 x460000 x460001 x460002 x460003).unique (IsLim.succ (fun k => (moultlaw12_has.mono_l k).2 x0 x5 x6 x460000 x460001 x460002 x460003) ?_)
  simp only [moultlaw12_has.l1]
  repeat' first | with_reducible exact IsLim.const _ | with_reducible refine IsLim.ite ?_ ?_ | with_reducible refine IsLim.bind ?_ (fun _ => ?_) | exact moultlaw12_has.l1_lim _ _ _ _ _ _ _ | exact moultlaw12_has.l0_lim _ _ _ _ _ _ | exact IsLim.const _
set_option maxRecDepth 10000 in
theorem moultlaw12_has.fL_eq (l0 : List (List (S36))) (a1_0 : ByteArray) (a1_1 : Int) (a1_2 : Bool) (a1_3 : ByteArray) : moultlaw12_has.fL l0 a1_0 a1_1 a1_2 a1_3 = moultlaw12_has.l0L l0 0 a1_0 a1_1 a1_2 a1_3 := by
  refine (moultlaw12_has.f_lim l0 a1_0 a1_1 a1_2 a1_3).unique ?_
  simp only [moultlaw12_has.f]
  repeat' first | with_reducible exact IsLim.const _ | with_reducible refine IsLim.ite ?_ ?_ | with_reducible refine IsLim.bind ?_ (fun _ => ?_) | exact moultlaw12_has.l0_lim _ _ _ _ _ _ | exact IsLim.const _
set_option maxRecDepth 10000 in
theorem moultlaw12_known.l0L_eq (x0 : List (S36)) (x5 : Int) (x464000 : ByteArray) (x464001 : Int) (x464002 : Bool) (x464003 : ByteArray) : moultlaw12_known.l0L x0 x5 x464000 x464001 x464002 x464003 = if x5 < (x0.length : Int) then (if 0 ≤ x5 then (if ((rd_T36 x0 x5).f0).toList = x464000.toList then (if ((rd_T36 x0 x5).f1) = x464001 then (some true) else (moultlaw12_known.l0L x0 (wrap64 (x5 + 1)) x464000 x464001 x464002 x464003)) else (moultlaw12_known.l0L x0 (wrap64 (x5 + 1)) x464000 x464001 x464002 x464003)) else (none)) else (some false) := by
  refine (moultlaw12_known.l0_lim x0 x5 x464000 x464001 x464002 x464003).unique (IsLim.succ (fun k => (moultlaw12_known.mono_l k) x0 x5 x464000 x464001 x464002 x464003) ?_)
  simp only [moultlaw12_known.l0]
  repeat' first | with_reducible exact IsLim.const _ | with_reducible refine IsLim.ite ?_ ?_ | with_reducible refine IsLim.bind ?_ (fun _ => ?_) | exact moultlaw12_known.l0_lim _ _ _ _ _ _ | exact IsLim.const _
set_option maxRecDepth 10000 in
theorem moultlaw12_known.fL_eq (l0 : List (S36)) (a1_0 : ByteArray) (a1_1 : Int) (a1_2 : Bool) (a1_3 : ByteArray) : moultlaw12_known.fL l0 a1_0 a1_1 a1_2 a1_3 = moultlaw12_known.l0L l0 0 a1_0 a1_1 a1_2 a1_3 := by
  refine (moultlaw12_known.f_lim l0 a1_0 a1_1 a1_2 a1_3).unique ?_
  simp only [moultlaw12_known.f]
  repeat' first | with_reducible exact IsLim.const _ | with_reducible refine IsLim.ite ?_ ?_ | with_reducible refine IsLim.bind ?_ (fun _ => ?_) | exact moultlaw12_known.l0_lim _ _ _ _ _ _ | exact IsLim.const _
end Go.Proofs.Ythdoanbadhfhjaa.PAll
