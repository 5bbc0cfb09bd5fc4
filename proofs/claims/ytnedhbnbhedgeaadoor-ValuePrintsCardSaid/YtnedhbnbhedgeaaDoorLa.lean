/- Printed functions without a bound on rounds, and their equations: laid by genlim.py (a program of the session). -/
import Derived.Test.YtnedhbnbhedgeaaDoorPAllx2
import Derived.Test.YtnedhbnbhedgeaaDoorPAllx3
import Derived.Test.YtnedhbnbhedgeaaDoorLi
namespace Go.Proofs.YtnedhbnbhedgeaaDoor.PAll
open Go.Proofs.YtnedhbnbhedgeaaDoor Go.RowKit Go.Proofs.YtnedhbnbhedgeaaDoorW.PrintWords Go.Proofs.YtnedhbnbhedgeaaDoorW.PrintLast Go.Proofs.YtnedhbnbhedgeaaDoorW.PrintMore
set_option linter.unusedVariables false

noncomputable def cmp_Or_int.l0L (x3 : Int) (x6 : List Int) (x7 : Int) (x8 : Int) : Option (Int) := lim (fun k => cmp_Or_int.l0 k x3 x6 x7 x8)
theorem cmp_Or_int.l0_lim (x3 : Int) (x6 : List Int) (x7 : Int) (x8 : Int) : IsLim (fun k => cmp_Or_int.l0 k x3 x6 x7 x8) (cmp_Or_int.l0L x3 x6 x7 x8) := isLim_lim (fun k => (cmp_Or_int.mono_l k) x3 x6 x7 x8)
noncomputable def cmp_Or_int.fL (l0 : List Int) : Option (Int) := lim (fun k => cmp_Or_int.f k l0)
theorem cmp_Or_int.f_lim (l0 : List Int) : IsLim (fun k => cmp_Or_int.f k l0) (cmp_Or_int.fL l0) := isLim_lim (fun k => cmp_Or_int.mono l0 k)
noncomputable def value_Compare.fL (a0_0 : Int) (a0_1 : Int) (a0_2 : ByteArray) (a1_0 : Int) (a1_1 : Int) (a1_2 : ByteArray) : Option (Int) := lim (fun k => value_Compare.f k a0_0 a0_1 a0_2 a1_0 a1_1 a1_2)
theorem value_Compare.f_lim (a0_0 : Int) (a0_1 : Int) (a0_2 : ByteArray) (a1_0 : Int) (a1_1 : Int) (a1_2 : ByteArray) : IsLim (fun k => value_Compare.f k a0_0 a0_1 a0_2 a1_0 a1_1 a1_2) (value_Compare.fL a0_0 a0_1 a0_2 a1_0 a1_1 a1_2) := isLim_lim (fun k => value_Compare.mono a0_0 a0_1 a0_2 a1_0 a1_1 a1_2 k)
noncomputable def moultlaw1_shown.j0L (x1 : Bool) : Option (Bool) := lim (fun k => moultlaw1_shown.j0 k x1)
theorem moultlaw1_shown.j0_lim (x1 : Bool) : IsLim (fun k => moultlaw1_shown.j0 k x1) (moultlaw1_shown.j0L x1) := isLim_lim (fun k => (moultlaw1_shown.mono_l k).1 x1)
noncomputable def moultlaw1_shown.j1L (x1 : Bool) (x2 : Bool) : Option (Bool) := lim (fun k => moultlaw1_shown.j1 k x1 x2)
theorem moultlaw1_shown.j1_lim (x1 : Bool) (x2 : Bool) : IsLim (fun k => moultlaw1_shown.j1 k x1 x2) (moultlaw1_shown.j1L x1 x2) := isLim_lim (fun k => (moultlaw1_shown.mono_l k).2 x1 x2)
noncomputable def moultlaw1_shown.fL  : Option (Bool) := lim (fun k => moultlaw1_shown.f k )
theorem moultlaw1_shown.f_lim  : IsLim (fun k => moultlaw1_shown.f k ) (moultlaw1_shown.fL ) := isLim_lim (fun k => moultlaw1_shown.mono  k)
noncomputable def moultref1_Bytes.l0L (x0 : ByteArray) (x1 : ByteArray) (x5 : Int) : Option (Int) := lim (fun k => moultref1_Bytes.l0 k x0 x1 x5)
theorem moultref1_Bytes.l0_lim (x0 : ByteArray) (x1 : ByteArray) (x5 : Int) : IsLim (fun k => moultref1_Bytes.l0 k x0 x1 x5) (moultref1_Bytes.l0L x0 x1 x5) := isLim_lim (fun k => (moultref1_Bytes.mono_l k).1 x0 x1 x5)
noncomputable def moultref1_Bytes.j1L (x0 : ByteArray) (x1 : ByteArray) (x5 : Int) (x15 : Bool) : Option (Int) := lim (fun k => moultref1_Bytes.j1 k x0 x1 x5 x15)
theorem moultref1_Bytes.j1_lim (x0 : ByteArray) (x1 : ByteArray) (x5 : Int) (x15 : Bool) : IsLim (fun k => moultref1_Bytes.j1 k x0 x1 x5 x15) (moultref1_Bytes.j1L x0 x1 x5 x15) := isLim_lim (fun k => (moultref1_Bytes.mono_l k).2 x0 x1 x5 x15)
noncomputable def moultref1_Bytes.fL (a0 : ByteArray) (a1 : ByteArray) : Option (Int) := lim (fun k => moultref1_Bytes.f k a0 a1)
theorem moultref1_Bytes.f_lim (a0 : ByteArray) (a1 : ByteArray) : IsLim (fun k => moultref1_Bytes.f k a0 a1) (moultref1_Bytes.fL a0 a1) := isLim_lim (fun k => moultref1_Bytes.mono a0 a1 k)
noncomputable def moultref1_Compare.l0L (x5 : List Int) (x6 : List Int) (x7 : Int) (x152000 : Int) (x152001 : Int) (x152002 : ByteArray) (x153000 : Int) (x153001 : Int) (x153002 : ByteArray) : Option (Int) := lim (fun k => moultref1_Compare.l0 k x5 x6 x7 x152000 x152001 x152002 x153000 x153001 x153002)
theorem moultref1_Compare.l0_lim (x5 : List Int) (x6 : List Int) (x7 : Int) (x152000 : Int) (x152001 : Int) (x152002 : ByteArray) (x153000 : Int) (x153001 : Int) (x153002 : ByteArray) : IsLim (fun k => moultref1_Compare.l0 k x5 x6 x7 x152000 x152001 x152002 x153000 x153001 x153002) (moultref1_Compare.l0L x5 x6 x7 x152000 x152001 x152002 x153000 x153001 x153002) := isLim_lim (fun k => (moultref1_Compare.mono_l k) x5 x6 x7 x152000 x152001 x152002 x153000 x153001 x153002)
noncomputable def moultref1_Compare.fL (a0_0 : Int) (a0_1 : Int) (a0_2 : ByteArray) (a1_0 : Int) (a1_1 : Int) (a1_2 : ByteArray) : Option (Int) := lim (fun k => moultref1_Compare.f k a0_0 a0_1 a0_2 a1_0 a1_1 a1_2)
theorem moultref1_Compare.f_lim (a0_0 : Int) (a0_1 : Int) (a0_2 : ByteArray) (a1_0 : Int) (a1_1 : Int) (a1_2 : ByteArray) : IsLim (fun k => moultref1_Compare.f k a0_0 a0_1 a0_2 a1_0 a1_1 a1_2) (moultref1_Compare.fL a0_0 a0_1 a0_2 a1_0 a1_1 a1_2) := isLim_lim (fun k => moultref1_Compare.mono a0_0 a0_1 a0_2 a1_0 a1_1 a1_2 k)

set_option maxRecDepth 10000 in
theorem cmp_Or_int.l0L_eq (x3 : Int) (x6 : List Int) (x7 : Int) (x8 : Int) : cmp_Or_int.l0L x3 x6 x7 x8 = if x8 < x7 then (if 0 ≤ x8 then (if x8 < (x6.length : Int) then (if (rd x6 x8) = x3 then (cmp_Or_int.l0L x3 x6 x7 (wrap64 (x8 + 1))) else (some (rd x6 x8))) else (none)) else (none)) else (some x3) := by
  refine (cmp_Or_int.l0_lim x3 x6 x7 x8).unique (IsLim.succ (fun k => (cmp_Or_int.mono_l k) x3 x6 x7 x8) ?_)
  simp only [cmp_Or_int.l0]
  repeat' first | with_reducible exact IsLim.const _ | with_reducible refine IsLim.ite ?_ ?_ | with_reducible refine IsLim.bind ?_ (fun _ => ?_) | exact cmp_Or_int.l0_lim _ _ _ _ | exact IsLim.const _
set_option maxRecDepth 10000 in
theorem cmp_Or_int.fL_eq (l0 : List Int) : cmp_Or_int.fL l0 = cmp_Or_int.l0L 0 l0 (l0.length : Int) 0 := by
  refine (cmp_Or_int.f_lim l0).unique ?_
  simp only [cmp_Or_int.f]
  repeat' first | with_reducible exact IsLim.const _ | with_reducible refine IsLim.ite ?_ ?_ | with_reducible refine IsLim.bind ?_ (fun _ => ?_) | exact cmp_Or_int.l0_lim _ _ _ _ | exact IsLim.const _
set_option maxRecDepth 10000 in
theorem value_Compare.fL_eq (a0_0 : Int) (a0_1 : Int) (a0_2 : ByteArray) (a1_0 : Int) (a1_1 : Int) (a1_2 : ByteArray) : value_Compare.fL a0_0 a0_1 a0_2 a1_0 a1_1 a1_2 = (cmp_Compare_int.f a0_0 a1_0).bind fun t106 => ((cmp_Compare_int.f a0_1 a1_1).bind fun t107 => ((strings_Compare.f a0_2 a1_2).bind fun t108 => ((cmp_Or_int.fL (([t106, t107, t108] : List Int))).bind fun t112 => (some t112)))) := by
  refine (value_Compare.f_lim a0_0 a0_1 a0_2 a1_0 a1_1 a1_2).unique ?_
  simp only [value_Compare.f]
  repeat' first | with_reducible exact IsLim.const _ | with_reducible refine IsLim.ite ?_ ?_ | with_reducible refine IsLim.bind ?_ (fun _ => ?_) | exact cmp_Or_int.f_lim _ | exact IsLim.const _
set_option maxRecDepth 10000 in
theorem moultlaw1_shown.j0L_eq (x1 : Bool) : moultlaw1_shown.j0L x1 = (value_Print.f 5 0 (⟨#[97, 39, 98]⟩ : ByteArray)).bind fun t133 => (if t133.toList = ([39, 97, 92, 39, 98, 39] : List UInt8) then ((value_Print.f 6 0 (⟨#[10]⟩ : ByteArray)).bind fun t134 => (moultlaw1_shown.j1L x1 (t134.toList == ([34, 92, 120, 48, 97, 34] : List UInt8)))) else (moultlaw1_shown.j1L x1 false)) := by
  refine (moultlaw1_shown.j0_lim x1).unique (IsLim.succ (fun k => (moultlaw1_shown.mono_l k).1 x1) ?_)
  simp only [moultlaw1_shown.j0]
  repeat' first | with_reducible exact IsLim.const _ | with_reducible refine IsLim.ite ?_ ?_ | with_reducible refine IsLim.bind ?_ (fun _ => ?_) | exact moultlaw1_shown.j1_lim _ _ | exact IsLim.const _
set_option maxRecDepth 10000 in
theorem moultlaw1_shown.j1L_eq (x1 : Bool) (x2 : Bool) : moultlaw1_shown.j1L x1 x2 = (value_Read.f (⟨#[55, 48, 48, 48, 48, 115]⟩ : ByteArray)).bind fun bt135 => ((value_Read.f (⟨#[45, 48]⟩ : ByteArray)).bind fun bt140 => ((value_Read.f (⟨#[39, 97, 39]⟩ : ByteArray)).bind fun bt145 => (if x1 = true then (if x2 = true then (if bt135.2.2.2 = 8 then (if bt140.2.2.2 = 8 then (if bt145.2.2.2 = 0 then (if (bt145.1 == 5 && (bt145.2.1 == 0 && (bt145.2.2.1.toList == ([97] : List UInt8)))) = true then ((value_Compare.fL 2 5 (⟨#[]⟩ : ByteArray) 3 1 (⟨#[]⟩ : ByteArray)).bind fun t150 => (some (t150 == (-1)))) else (some false)) else (some false)) else (some false)) else (some false)) else (some false)) else (some false)))) := by
  refine (moultlaw1_shown.j1_lim x1 x2).unique (IsLim.succ (fun k => (moultlaw1_shown.mono_l k).2 x1 x2) ?_)
  simp only [moultlaw1_shown.j1]
  repeat' first | with_reducible exact IsLim.const _ | with_reducible refine IsLim.ite ?_ ?_ | with_reducible refine IsLim.bind ?_ (fun _ => ?_) | exact value_Compare.f_lim _ _ _ _ _ _ | exact IsLim.const _
set_option maxRecDepth 10000 in
theorem moultlaw1_shown.fL_eq  : moultlaw1_shown.fL  = (value_Print.f 1 1 (⟨#[]⟩ : ByteArray)).bind fun t130 => (if t130.toList = ([121, 101, 115] : List UInt8) then ((value_Print.f 2 (-5) (⟨#[]⟩ : ByteArray)).bind fun t131 => (if t131.toList = ([45, 53, 115] : List UInt8) then ((value_Print.f 4 7 (⟨#[]⟩ : ByteArray)).bind fun t132 => (moultlaw1_shown.j0L (t132.toList == ([55] : List UInt8)))) else (moultlaw1_shown.j0L false))) else (moultlaw1_shown.j0L false)) := by
  refine (moultlaw1_shown.f_lim ).unique ?_
  simp only [moultlaw1_shown.f]
  repeat' first | with_reducible exact IsLim.const _ | with_reducible refine IsLim.ite ?_ ?_ | with_reducible refine IsLim.bind ?_ (fun _ => ?_) | exact moultlaw1_shown.j0_lim _ | exact IsLim.const _
set_option maxRecDepth 10000 in
theorem moultref1_Bytes.l0L_eq (x0 : ByteArray) (x1 : ByteArray) (x5 : Int) : moultref1_Bytes.l0L x0 x1 x5 = if x5 < (x0.size : Int) then (moultref1_Bytes.j1L x0 x1 x5 (decide (x5 < (x1.size : Int)))) else (moultref1_Bytes.j1L x0 x1 x5 false) := by
  refine (moultref1_Bytes.l0_lim x0 x1 x5).unique (IsLim.succ (fun k => (moultref1_Bytes.mono_l k).1 x0 x1 x5) ?_)
  simp only [moultref1_Bytes.l0]
  repeat' first | with_reducible exact IsLim.const _ | with_reducible refine IsLim.ite ?_ ?_ | with_reducible refine IsLim.bind ?_ (fun _ => ?_) | exact moultref1_Bytes.j1_lim _ _ _ _ | exact IsLim.const _
set_option maxRecDepth 10000 in
theorem moultref1_Bytes.j1L_eq (x0 : ByteArray) (x1 : ByteArray) (x5 : Int) (x15 : Bool) : moultref1_Bytes.j1L x0 x1 x5 x15 = if x15 = true then (if 0 ≤ x5 then (if x5 < (x0.size : Int) then (if x5 < (x1.size : Int) then (if (bt x0 x5) < (bt x1 x5) then (some (-1)) else (if (bt x0 x5) > (bt x1 x5) then (some 1) else (moultref1_Bytes.l0L x0 x1 (wrap64 (x5 + 1))))) else (none)) else (none)) else (none)) else (if (x0.size : Int) < (x1.size : Int) then (some (-1)) else (if (x0.size : Int) > (x1.size : Int) then (some 1) else (some 0))) := by
  refine (moultref1_Bytes.j1_lim x0 x1 x5 x15).unique (IsLim.succ (fun k => (moultref1_Bytes.mono_l k).2 x0 x1 x5 x15) ?_)
  simp only [moultref1_Bytes.j1]
  repeat' first | with_reducible exact IsLim.const _ | with_reducible refine IsLim.ite ?_ ?_ | with_reducible refine IsLim.bind ?_ (fun _ => ?_) | exact moultref1_Bytes.l0_lim _ _ _ | exact IsLim.const _
set_option maxRecDepth 10000 in
theorem moultref1_Bytes.fL_eq (a0 : ByteArray) (a1 : ByteArray) : moultref1_Bytes.fL a0 a1 = moultref1_Bytes.l0L a0 a1 0 := by
  refine (moultref1_Bytes.f_lim a0 a1).unique ?_
  simp only [moultref1_Bytes.f]
  repeat' first | with_reducible exact IsLim.const _ | with_reducible refine IsLim.ite ?_ ?_ | with_reducible refine IsLim.bind ?_ (fun _ => ?_) | exact moultref1_Bytes.l0_lim _ _ _ | exact IsLim.const _
set_option maxRecDepth 10000 in
theorem moultref1_Compare.l0L_eq (x5 : List Int) (x6 : List Int) (x7 : Int) (x152000 : Int) (x152001 : Int) (x152002 : ByteArray) (x153000 : Int) (x153001 : Int) (x153002 : ByteArray) : moultref1_Compare.l0L x5 x6 x7 x152000 x152001 x152002 x153000 x153001 x153002 = if x7 < 2 then (if 0 ≤ x7 then (if x7 < (x5.length : Int) then (if x7 < (x6.length : Int) then (if (rd x5 x7) < (rd x6 x7) then (some (-1)) else (if (rd x5 x7) > (rd x6 x7) then (some 1) else (moultref1_Compare.l0L x5 x6 (wrap64 (x7 + 1)) x152000 x152001 x152002 x153000 x153001 x153002))) else (none)) else (none)) else (none)) else ((moultref1_Bytes.fL x152002 x153002).bind fun t159 => (some t159)) := by
  refine (moultref1_Compare.l0_lim x5 x6 x7 x152000 x152001 x152002 x153000 x153001 x153002).unique (IsLim.succ (fun k => (moultref1_Compare.mono_l k) x5 x6 x7 x152000 x152001 x152002 x153000 x153001 x153002) ?_)
  simp only [moultref1_Compare.l0]
  repeat' first | with_reducible exact IsLim.const _ | with_reducible refine IsLim.ite ?_ ?_ | with_reducible refine IsLim.bind ?_ (fun _ => ?_) | exact moultref1_Compare.l0_lim _ _ _ _ _ _ _ _ _ | exact moultref1_Bytes.f_lim _ _ | exact IsLim.const _
set_option maxRecDepth 10000 in
theorem moultref1_Compare.fL_eq (a0_0 : Int) (a0_1 : Int) (a0_2 : ByteArray) (a1_0 : Int) (a1_1 : Int) (a1_2 : ByteArray) : moultref1_Compare.fL a0_0 a0_1 a0_2 a1_0 a1_1 a1_2 = moultref1_Compare.l0L (([a0_0, a0_1] : List Int)) (([a1_0, a1_1] : List Int)) 0 a0_0 a0_1 a0_2 a1_0 a1_1 a1_2 := by
  refine (moultref1_Compare.f_lim a0_0 a0_1 a0_2 a1_0 a1_1 a1_2).unique ?_
  simp only [moultref1_Compare.f]
  repeat' first | with_reducible exact IsLim.const _ | with_reducible refine IsLim.ite ?_ ?_ | with_reducible refine IsLim.bind ?_ (fun _ => ?_) | exact moultref1_Compare.l0_lim _ _ _ _ _ _ _ _ _ | exact IsLim.const _
end Go.Proofs.YtnedhbnbhedgeaaDoor.PAll
