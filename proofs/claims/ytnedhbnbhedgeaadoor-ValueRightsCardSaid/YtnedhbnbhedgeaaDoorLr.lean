/- Printed functions without a bound on rounds, and their equations: laid by genlim.py (a program of the session). -/
import Derived.Test.YtnedhbnbhedgeaaDoorPAllx11
import Derived.Test.YtnedhbnbhedgeaaDoorLi
import Derived.Test.YtnedhbnbhedgeaaDoorLa
import Derived.Test.YtnedhbnbhedgeaaDoorLb
namespace Go.Proofs.YtnedhbnbhedgeaaDoor.PAll
open Go.Proofs.YtnedhbnbhedgeaaDoor Go.RowKit Go.Proofs.YtnedhbnbhedgeaaDoorW.PrintWords Go.Proofs.YtnedhbnbhedgeaaDoorW.PrintLast Go.Proofs.YtnedhbnbhedgeaaDoorW.PrintMore
set_option linter.unusedVariables false

noncomputable def moultlaw1_ValueRights.j0L (x1 : Int) (x5 : Bool) (x17 : Bool) (x295000 : Int) (x295001 : Int) (x295002 : ByteArray) : Option (Bool) := lim (fun k => moultlaw1_ValueRights.j0 k x1 x5 x17 x295000 x295001 x295002)
theorem moultlaw1_ValueRights.j0_lim (x1 : Int) (x5 : Bool) (x17 : Bool) (x295000 : Int) (x295001 : Int) (x295002 : ByteArray) : IsLim (fun k => moultlaw1_ValueRights.j0 k x1 x5 x17 x295000 x295001 x295002) (moultlaw1_ValueRights.j0L x1 x5 x17 x295000 x295001 x295002) := isLim_lim (fun k => (moultlaw1_ValueRights.mono_l k).1 x1 x5 x17 x295000 x295001 x295002)
noncomputable def moultlaw1_ValueRights.j1L (x1 : Int) (x7 : Bool) (x8 : Bool) (x295000 : Int) (x295001 : Int) (x295002 : ByteArray) (x301000 : Int) (x301001 : Int) (x301002 : ByteArray) : Option (Bool) := lim (fun k => moultlaw1_ValueRights.j1 k x1 x7 x8 x295000 x295001 x295002 x301000 x301001 x301002)
theorem moultlaw1_ValueRights.j1_lim (x1 : Int) (x7 : Bool) (x8 : Bool) (x295000 : Int) (x295001 : Int) (x295002 : ByteArray) (x301000 : Int) (x301001 : Int) (x301002 : ByteArray) : IsLim (fun k => moultlaw1_ValueRights.j1 k x1 x7 x8 x295000 x295001 x295002 x301000 x301001 x301002) (moultlaw1_ValueRights.j1L x1 x7 x8 x295000 x295001 x295002 x301000 x301001 x301002) := isLim_lim (fun k => (moultlaw1_ValueRights.mono_l k).2.1 x1 x7 x8 x295000 x295001 x295002 x301000 x301001 x301002)
noncomputable def moultlaw1_ValueRights.j2L (x8 : Bool) (x50 : Bool) (x295000 : Int) (x295001 : Int) (x295002 : ByteArray) (x301000 : Int) (x301001 : Int) (x301002 : ByteArray) : Option (Bool) := lim (fun k => moultlaw1_ValueRights.j2 k x8 x50 x295000 x295001 x295002 x301000 x301001 x301002)
theorem moultlaw1_ValueRights.j2_lim (x8 : Bool) (x50 : Bool) (x295000 : Int) (x295001 : Int) (x295002 : ByteArray) (x301000 : Int) (x301001 : Int) (x301002 : ByteArray) : IsLim (fun k => moultlaw1_ValueRights.j2 k x8 x50 x295000 x295001 x295002 x301000 x301001 x301002) (moultlaw1_ValueRights.j2L x8 x50 x295000 x295001 x295002 x301000 x301001 x301002) := isLim_lim (fun k => (moultlaw1_ValueRights.mono_l k).2.2 x8 x50 x295000 x295001 x295002 x301000 x301001 x301002)
noncomputable def moultlaw1_ValueRights.fL (a0_0 : Int) (a0_1 : Int) (a0_2 : ByteArray) (a1 : Int) : Option (Bool) := lim (fun k => moultlaw1_ValueRights.f k a0_0 a0_1 a0_2 a1)
theorem moultlaw1_ValueRights.f_lim (a0_0 : Int) (a0_1 : Int) (a0_2 : ByteArray) (a1 : Int) : IsLim (fun k => moultlaw1_ValueRights.f k a0_0 a0_1 a0_2 a1) (moultlaw1_ValueRights.fL a0_0 a0_1 a0_2 a1) := isLim_lim (fun k => moultlaw1_ValueRights.mono a0_0 a0_1 a0_2 a1 k)

set_option maxRecDepth 10000 in
theorem moultlaw1_ValueRights.j0L_eq (x1 : Int) (x5 : Bool) (x17 : Bool) (x295000 : Int) (x295001 : Int) (x295002 : ByteArray) : moultlaw1_ValueRights.j0L x1 x5 x17 x295000 x295001 x295002 = if x17 = true then (some x5) else ((value_Zero.f x1).bind fun bt296 => (if x1 ≥ 1 then (moultlaw1_ValueRights.j1L x1 bt296.2.2.2 (decide (x1 ≤ 6)) x295000 x295001 x295002 bt296.1 bt296.2.1 bt296.2.2.1) else (moultlaw1_ValueRights.j1L x1 bt296.2.2.2 false x295000 x295001 x295002 bt296.1 bt296.2.1 bt296.2.2.1))) := by
  refine (moultlaw1_ValueRights.j0_lim x1 x5 x17 x295000 x295001 x295002).unique (IsLim.succ (fun k => (moultlaw1_ValueRights.mono_l k).1 x1 x5 x17 x295000 x295001 x295002) ?_)
  simp only [moultlaw1_ValueRights.j0]
  repeat' first | with_reducible exact IsLim.const _ | with_reducible refine IsLim.ite ?_ ?_ | with_reducible refine IsLim.bind ?_ (fun _ => ?_) | exact moultlaw1_ValueRights.j1_lim _ _ _ _ _ _ _ _ _ | exact IsLim.const _
set_option maxRecDepth 10000 in
theorem moultlaw1_ValueRights.j1L_eq (x1 : Int) (x7 : Bool) (x8 : Bool) (x295000 : Int) (x295001 : Int) (x295002 : ByteArray) (x301000 : Int) (x301001 : Int) (x301002 : ByteArray) : moultlaw1_ValueRights.j1L x1 x7 x8 x295000 x295001 x295002 x301000 x301001 x301002 = if (x7 != x8) = true then (moultlaw1_ValueRights.j2L x8 true x295000 x295001 x295002 x301000 x301001 x301002) else (if x8 = true then (if (!(x301000 == x1) || (!(x301001 == 0) || (!(x301002.toList == ([] : List UInt8))))) = true then (moultlaw1_ValueRights.j2L x8 true x295000 x295001 x295002 x301000 x301001 x301002) else (moultlaw1_ValueRights.j2L x8 false x295000 x295001 x295002 x301000 x301001 x301002)) else (moultlaw1_ValueRights.j2L x8 (!(x301000 == 0) || (!(x301001 == 0) || (!(x301002.toList == ([] : List UInt8))))) x295000 x295001 x295002 x301000 x301001 x301002)) := by
  refine (moultlaw1_ValueRights.j1_lim x1 x7 x8 x295000 x295001 x295002 x301000 x301001 x301002).unique (IsLim.succ (fun k => (moultlaw1_ValueRights.mono_l k).2.1 x1 x7 x8 x295000 x295001 x295002 x301000 x301001 x301002) ?_)
  simp only [moultlaw1_ValueRights.j1]
  repeat' first | with_reducible exact IsLim.const _ | with_reducible refine IsLim.ite ?_ ?_ | with_reducible refine IsLim.bind ?_ (fun _ => ?_) | exact moultlaw1_ValueRights.j2_lim _ _ _ _ _ _ _ _ | exact IsLim.const _
set_option maxRecDepth 10000 in
theorem moultlaw1_ValueRights.j2L_eq (x8 : Bool) (x50 : Bool) (x295000 : Int) (x295001 : Int) (x295002 : ByteArray) (x301000 : Int) (x301001 : Int) (x301002 : ByteArray) : moultlaw1_ValueRights.j2L x8 x50 x295000 x295001 x295002 x301000 x301001 x301002 = if x50 = true then (some false) else ((value_Right.f x295000 x295001 x295002).bind fun t301 => ((moultref1_Right.f x295000 x295001 x295002).bind fun t302 => (if (t301 == t302) = true then (if x8 = true then ((value_Right.f x301000 x301001 x301002).bind fun t303 => (some t303)) else (some true)) else (some false)))) := by
  refine (moultlaw1_ValueRights.j2_lim x8 x50 x295000 x295001 x295002 x301000 x301001 x301002).unique (IsLim.succ (fun k => (moultlaw1_ValueRights.mono_l k).2.2 x8 x50 x295000 x295001 x295002 x301000 x301001 x301002) ?_)
  simp only [moultlaw1_ValueRights.j2]
  repeat' first | with_reducible exact IsLim.const _ | with_reducible refine IsLim.ite ?_ ?_ | with_reducible refine IsLim.bind ?_ (fun _ => ?_) | exact IsLim.const _
set_option maxRecDepth 10000 in
theorem moultlaw1_ValueRights.fL_eq (a0_0 : Int) (a0_1 : Int) (a0_2 : ByteArray) (a1 : Int) : moultlaw1_ValueRights.fL a0_0 a0_1 a0_2 a1 = (moultlaw1_shown.fL).bind fun t295 => (if t295 = true then (moultlaw1_ValueRights.j0L a1 t295 (decide ((a0_2.size : Int) > 3000)) a0_0 a0_1 a0_2) else (moultlaw1_ValueRights.j0L a1 t295 true a0_0 a0_1 a0_2)) := by
  refine (moultlaw1_ValueRights.f_lim a0_0 a0_1 a0_2 a1).unique ?_
  simp only [moultlaw1_ValueRights.f]
  repeat' first | with_reducible exact IsLim.const _ | with_reducible refine IsLim.ite ?_ ?_ | with_reducible refine IsLim.bind ?_ (fun _ => ?_) | exact moultlaw1_shown.f_lim | exact moultlaw1_ValueRights.j0_lim _ _ _ _ _ _ | exact IsLim.const _
end Go.Proofs.YtnedhbnbhedgeaaDoor.PAll
