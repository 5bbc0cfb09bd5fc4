/- Printed functions without a bound on rounds, and their equations: laid by genlim.py (a program of the session). -/
import Derived.Test.YtnedhbnbhedgeaaDoorPAllx10
import Derived.Test.YtnedhbnbhedgeaaDoorLi
import Derived.Test.YtnedhbnbhedgeaaDoorLa
namespace Go.Proofs.YtnedhbnbhedgeaaDoor.PAll
open Go.Proofs.YtnedhbnbhedgeaaDoor Go.RowKit Go.Proofs.YtnedhbnbhedgeaaDoorW.PrintWords Go.Proofs.YtnedhbnbhedgeaaDoorW.PrintLast Go.Proofs.YtnedhbnbhedgeaaDoorW.PrintMore
set_option linter.unusedVariables false

noncomputable def moultlaw1_ValueApart.j0L (x5 : Bool) (x30 : Bool) (x287000 : Int) (x287001 : Int) (x287002 : ByteArray) (x288000 : Int) (x288001 : Int) (x288002 : ByteArray) : Option (Bool) := lim (fun k => moultlaw1_ValueApart.j0 k x5 x30 x287000 x287001 x287002 x288000 x288001 x288002)
theorem moultlaw1_ValueApart.j0_lim (x5 : Bool) (x30 : Bool) (x287000 : Int) (x287001 : Int) (x287002 : ByteArray) (x288000 : Int) (x288001 : Int) (x288002 : ByteArray) : IsLim (fun k => moultlaw1_ValueApart.j0 k x5 x30 x287000 x287001 x287002 x288000 x288001 x288002) (moultlaw1_ValueApart.j0L x5 x30 x287000 x287001 x287002 x288000 x288001 x288002) := isLim_lim (fun k => (moultlaw1_ValueApart.mono_l k) x5 x30 x287000 x287001 x287002 x288000 x288001 x288002)
noncomputable def moultlaw1_ValueApart.fL (a0_0 : Int) (a0_1 : Int) (a0_2 : ByteArray) (a1_0 : Int) (a1_1 : Int) (a1_2 : ByteArray) : Option (Bool) := lim (fun k => moultlaw1_ValueApart.f k a0_0 a0_1 a0_2 a1_0 a1_1 a1_2)
theorem moultlaw1_ValueApart.f_lim (a0_0 : Int) (a0_1 : Int) (a0_2 : ByteArray) (a1_0 : Int) (a1_1 : Int) (a1_2 : ByteArray) : IsLim (fun k => moultlaw1_ValueApart.f k a0_0 a0_1 a0_2 a1_0 a1_1 a1_2) (moultlaw1_ValueApart.fL a0_0 a0_1 a0_2 a1_0 a1_1 a1_2) := isLim_lim (fun k => moultlaw1_ValueApart.mono a0_0 a0_1 a0_2 a1_0 a1_1 a1_2 k)

set_option maxRecDepth 10000 in
theorem moultlaw1_ValueApart.j0L_eq (x5 : Bool) (x30 : Bool) (x287000 : Int) (x287001 : Int) (x287002 : ByteArray) (x288000 : Int) (x288001 : Int) (x288002 : ByteArray) : moultlaw1_ValueApart.j0L x5 x30 x287000 x287001 x287002 x288000 x288001 x288002 = if x30 = true then (some x5) else ((value_Print.f x287000 x287001 x287002).bind fun t291 => ((value_Print.f x288000 x288001 x288002).bind fun t292 => (some ((t291.toList == t292.toList) == (x287000 == x288000 && (x287001 == x288001 && (x287002.toList == x288002.toList))))))) := by
  refine (moultlaw1_ValueApart.j0_lim x5 x30 x287000 x287001 x287002 x288000 x288001 x288002).unique (IsLim.succ (fun k => (moultlaw1_ValueApart.mono_l k) x5 x30 x287000 x287001 x287002 x288000 x288001 x288002) ?_)
  simp only [moultlaw1_ValueApart.j0]
  repeat' first | with_reducible exact IsLim.const _ | with_reducible refine IsLim.ite ?_ ?_ | with_reducible refine IsLim.bind ?_ (fun _ => ?_) | exact IsLim.const _
set_option maxRecDepth 10000 in
theorem moultlaw1_ValueApart.fL_eq (a0_0 : Int) (a0_1 : Int) (a0_2 : ByteArray) (a1_0 : Int) (a1_1 : Int) (a1_2 : ByteArray) : moultlaw1_ValueApart.fL a0_0 a0_1 a0_2 a1_0 a1_1 a1_2 = (moultlaw1_shown.fL).bind fun t288 => (if t288 = true then (if (a0_2.size : Int) > 3000 then (moultlaw1_ValueApart.j0L t288 true a0_0 a0_1 a0_2 a1_0 a1_1 a1_2) else (if (a1_2.size : Int) > 3000 then (moultlaw1_ValueApart.j0L t288 true a0_0 a0_1 a0_2 a1_0 a1_1 a1_2) else ((value_Right.f a0_0 a0_1 a0_2).bind fun t289 => (if t289 = true then ((value_Right.f a1_0 a1_1 a1_2).bind fun t290 => (moultlaw1_ValueApart.j0L t288 (!t290) a0_0 a0_1 a0_2 a1_0 a1_1 a1_2)) else (moultlaw1_ValueApart.j0L t288 true a0_0 a0_1 a0_2 a1_0 a1_1 a1_2))))) else (moultlaw1_ValueApart.j0L t288 true a0_0 a0_1 a0_2 a1_0 a1_1 a1_2)) := by
  refine (moultlaw1_ValueApart.f_lim a0_0 a0_1 a0_2 a1_0 a1_1 a1_2).unique ?_
  simp only [moultlaw1_ValueApart.f]
  repeat' first | with_reducible exact IsLim.const _ | with_reducible refine IsLim.ite ?_ ?_ | with_reducible refine IsLim.bind ?_ (fun _ => ?_) | exact moultlaw1_shown.f_lim | exact moultlaw1_ValueApart.j0_lim _ _ _ _ _ _ _ _ | exact IsLim.const _
end Go.Proofs.YtnedhbnbhedgeaaDoor.PAll
