/- Printed functions without a bound on rounds, and their equations: laid by genlim.py (a program of the session). -/
import Derived.Test.YtnedhbnbhedgeaaDoorPAllx6
import Derived.Test.YtnedhbnbhedgeaaDoorPAllx7
import Derived.Test.YtnedhbnbhedgeaaDoorPAllx8
import Derived.Test.YtnedhbnbhedgeaaDoorLi
import Derived.Test.YtnedhbnbhedgeaaDoorLa
import Derived.Test.YtnedhbnbhedgeaaDoorLb
namespace Go.Proofs.YtnedhbnbhedgeaaDoor.PAll
open Go.Proofs.YtnedhbnbhedgeaaDoor Go.RowKit Go.Proofs.YtnedhbnbhedgeaaDoorW.PrintWords Go.Proofs.YtnedhbnbhedgeaaDoorW.PrintLast Go.Proofs.YtnedhbnbhedgeaaDoorW.PrintMore
set_option linter.unusedVariables false

noncomputable def moultlaw1_ValuePrints.j0L (x3 : Bool) (x12 : Bool) (x212000 : Int) (x212001 : Int) (x212002 : ByteArray) : Option (Bool) := lim (fun k => moultlaw1_ValuePrints.j0 k x3 x12 x212000 x212001 x212002)
theorem moultlaw1_ValuePrints.j0_lim (x3 : Bool) (x12 : Bool) (x212000 : Int) (x212001 : Int) (x212002 : ByteArray) : IsLim (fun k => moultlaw1_ValuePrints.j0 k x3 x12 x212000 x212001 x212002) (moultlaw1_ValuePrints.j0L x3 x12 x212000 x212001 x212002) := isLim_lim (fun k => (moultlaw1_ValuePrints.mono_l k) x3 x12 x212000 x212001 x212002)
noncomputable def moultlaw1_ValuePrints.fL (a0_0 : Int) (a0_1 : Int) (a0_2 : ByteArray) : Option (Bool) := lim (fun k => moultlaw1_ValuePrints.f k a0_0 a0_1 a0_2)
theorem moultlaw1_ValuePrints.f_lim (a0_0 : Int) (a0_1 : Int) (a0_2 : ByteArray) : IsLim (fun k => moultlaw1_ValuePrints.f k a0_0 a0_1 a0_2) (moultlaw1_ValuePrints.fL a0_0 a0_1 a0_2) := isLim_lim (fun k => moultlaw1_ValuePrints.mono a0_0 a0_1 a0_2 k)
noncomputable def moultref1_number.j0L (x0 : ByteArray) (x3 : Int) (x4 : Bool) : Option (Int) := lim (fun k => moultref1_number.j0 k x0 x3 x4)
theorem moultref1_number.j0_lim (x0 : ByteArray) (x3 : Int) (x4 : Bool) : IsLim (fun k => moultref1_number.j0 k x0 x3 x4) (moultref1_number.j0L x0 x3 x4) := isLim_lim (fun k => (moultref1_number.mono_l k).1 x0 x3 x4)
noncomputable def moultref1_number.l0L (x0 : ByteArray) (x3 : Int) (x4 : Bool) (x5 : Int) : Option (Int) := lim (fun k => moultref1_number.l0 k x0 x3 x4 x5)
theorem moultref1_number.l0_lim (x0 : ByteArray) (x3 : Int) (x4 : Bool) (x5 : Int) : IsLim (fun k => moultref1_number.l0 k x0 x3 x4 x5) (moultref1_number.l0L x0 x3 x4 x5) := isLim_lim (fun k => (moultref1_number.mono_l k).2.1 x0 x3 x4 x5)
noncomputable def moultref1_number.j2L (x0 : ByteArray) (x3 : Int) (x4 : Bool) (x5 : Int) (x30 : Bool) : Option (Int) := lim (fun k => moultref1_number.j2 k x0 x3 x4 x5 x30)
theorem moultref1_number.j2_lim (x0 : ByteArray) (x3 : Int) (x4 : Bool) (x5 : Int) (x30 : Bool) : IsLim (fun k => moultref1_number.j2 k x0 x3 x4 x5 x30) (moultref1_number.j2L x0 x3 x4 x5 x30) := isLim_lim (fun k => (moultref1_number.mono_l k).2.2 x0 x3 x4 x5 x30)
noncomputable def moultref1_number.fL (a0 : ByteArray) : Option (Int) := lim (fun k => moultref1_number.f k a0)
theorem moultref1_number.f_lim (a0 : ByteArray) : IsLim (fun k => moultref1_number.f k a0) (moultref1_number.fL a0) := isLim_lim (fun k => moultref1_number.mono a0 k)
noncomputable def moultref1_hex.j0L (x0 : Int) (x3 : Bool) : Option (Int) := lim (fun k => moultref1_hex.j0 k x0 x3)
theorem moultref1_hex.j0_lim (x0 : Int) (x3 : Bool) : IsLim (fun k => moultref1_hex.j0 k x0 x3) (moultref1_hex.j0L x0 x3) := isLim_lim (fun k => (moultref1_hex.mono_l k) x0 x3)
noncomputable def moultref1_hex.fL (a0 : Int) : Option (Int) := lim (fun k => moultref1_hex.f k a0)
theorem moultref1_hex.f_lim (a0 : Int) : IsLim (fun k => moultref1_hex.f k a0) (moultref1_hex.fL a0) := isLim_lim (fun k => moultref1_hex.mono a0 k)
noncomputable def moultref1_unquoted.l0L (x0 : ByteArray) (x3 : List Int) (x4 : Int) : Option (ByteArray) := lim (fun k => moultref1_unquoted.l0 k x0 x3 x4)
theorem moultref1_unquoted.l0_lim (x0 : ByteArray) (x3 : List Int) (x4 : Int) : IsLim (fun k => moultref1_unquoted.l0 k x0 x3 x4) (moultref1_unquoted.l0L x0 x3 x4) := isLim_lim (fun k => (moultref1_unquoted.mono_l k).1 x0 x3 x4)
noncomputable def moultref1_unquoted.j1L (x0 : ByteArray) (x3 : List Int) (x4 : Int) (x21 : Bool) : Option (ByteArray) := lim (fun k => moultref1_unquoted.j1 k x0 x3 x4 x21)
theorem moultref1_unquoted.j1_lim (x0 : ByteArray) (x3 : List Int) (x4 : Int) (x21 : Bool) : IsLim (fun k => moultref1_unquoted.j1 k x0 x3 x4 x21) (moultref1_unquoted.j1L x0 x3 x4 x21) := isLim_lim (fun k => (moultref1_unquoted.mono_l k).2.1 x0 x3 x4 x21)
noncomputable def moultref1_unquoted.j2L (x0 : ByteArray) (x3 : List Int) (x4 : Int) (x55 : Bool) : Option (ByteArray) := lim (fun k => moultref1_unquoted.j2 k x0 x3 x4 x55)
theorem moultref1_unquoted.j2_lim (x0 : ByteArray) (x3 : List Int) (x4 : Int) (x55 : Bool) : IsLim (fun k => moultref1_unquoted.j2 k x0 x3 x4 x55) (moultref1_unquoted.j2L x0 x3 x4 x55) := isLim_lim (fun k => (moultref1_unquoted.mono_l k).2.2 x0 x3 x4 x55)
noncomputable def moultref1_unquoted.fL (a0 : ByteArray) : Option (ByteArray) := lim (fun k => moultref1_unquoted.f k a0)
theorem moultref1_unquoted.f_lim (a0 : ByteArray) : IsLim (fun k => moultref1_unquoted.f k a0) (moultref1_unquoted.fL a0) := isLim_lim (fun k => moultref1_unquoted.mono a0 k)
noncomputable def moultref1_Read.j0L (x0 : ByteArray) (x4 : List (S23)) (x17 : Bool) : Option (Int × Int × ByteArray × Int) := lim (fun k => moultref1_Read.j0 k x0 x4 x17)
theorem moultref1_Read.j0_lim (x0 : ByteArray) (x4 : List (S23)) (x17 : Bool) : IsLim (fun k => moultref1_Read.j0 k x0 x4 x17) (moultref1_Read.j0L x0 x4 x17) := isLim_lim (fun k => (moultref1_Read.mono_l k).1 x0 x4 x17)
noncomputable def moultref1_Read.j1L (x0 : ByteArray) (x4 : List (S23)) : Option (Int × Int × ByteArray × Int) := lim (fun k => moultref1_Read.j1 k x0 x4)
theorem moultref1_Read.j1_lim (x0 : ByteArray) (x4 : List (S23)) : IsLim (fun k => moultref1_Read.j1 k x0 x4) (moultref1_Read.j1L x0 x4) := isLim_lim (fun k => (moultref1_Read.mono_l k).2.1 x0 x4)
noncomputable def moultref1_Read.j2L (x0 : ByteArray) (x4 : List (S23)) : Option (Int × Int × ByteArray × Int) := lim (fun k => moultref1_Read.j2 k x0 x4)
theorem moultref1_Read.j2_lim (x0 : ByteArray) (x4 : List (S23)) : IsLim (fun k => moultref1_Read.j2 k x0 x4) (moultref1_Read.j2L x0 x4) := isLim_lim (fun k => (moultref1_Read.mono_l k).2.2.1 x0 x4)
noncomputable def moultref1_Read.l0L (x0 : ByteArray) (x4 : List (S23)) (x6 : Int) : Option (Int × Int × ByteArray × Int) := lim (fun k => moultref1_Read.l0 k x0 x4 x6)
theorem moultref1_Read.l0_lim (x0 : ByteArray) (x4 : List (S23)) (x6 : Int) : IsLim (fun k => moultref1_Read.l0 k x0 x4 x6) (moultref1_Read.l0L x0 x4 x6) := isLim_lim (fun k => (moultref1_Read.mono_l k).2.2.2 x0 x4 x6)
noncomputable def moultref1_Read.fL (a0 : ByteArray) : Option (Int × Int × ByteArray × Int) := lim (fun k => moultref1_Read.f k a0)
theorem moultref1_Read.f_lim (a0 : ByteArray) : IsLim (fun k => moultref1_Read.f k a0) (moultref1_Read.fL a0) := isLim_lim (fun k => moultref1_Read.mono a0 k)
noncomputable def moultlaw1_ValueReads.j0L (x0 : ByteArray) (x3 : Bool) (x15 : Bool) : Option (Bool) := lim (fun k => moultlaw1_ValueReads.j0 k x0 x3 x15)
theorem moultlaw1_ValueReads.j0_lim (x0 : ByteArray) (x3 : Bool) (x15 : Bool) : IsLim (fun k => moultlaw1_ValueReads.j0 k x0 x3 x15) (moultlaw1_ValueReads.j0L x0 x3 x15) := isLim_lim (fun k => (moultlaw1_ValueReads.mono_l k) x0 x3 x15)
noncomputable def moultlaw1_ValueReads.fL (a0 : ByteArray) : Option (Bool) := lim (fun k => moultlaw1_ValueReads.f k a0)
theorem moultlaw1_ValueReads.f_lim (a0 : ByteArray) : IsLim (fun k => moultlaw1_ValueReads.f k a0) (moultlaw1_ValueReads.fL a0) := isLim_lim (fun k => moultlaw1_ValueReads.mono a0 k)

set_option maxRecDepth 10000 in
theorem moultlaw1_ValuePrints.j0L_eq (x3 : Bool) (x12 : Bool) (x212000 : Int) (x212001 : Int) (x212002 : ByteArray) : moultlaw1_ValuePrints.j0L x3 x12 x212000 x212001 x212002 = if x12 = true then (some x3) else ((value_Print.f x212000 x212001 x212002).bind fun t213 => ((moultref1_Print.fL x212000 x212001 x212002).bind fun t214 => (some (t213.toList == t214.toList)))) := by
  refine (moultlaw1_ValuePrints.j0_lim x3 x12 x212000 x212001 x212002).unique (IsLim.succ (fun k => (moultlaw1_ValuePrints.mono_l k) x3 x12 x212000 x212001 x212002) ?_)
  simp only [moultlaw1_ValuePrints.j0]
  repeat' first | with_reducible exact IsLim.const _ | with_reducible refine IsLim.ite ?_ ?_ | with_reducible refine IsLim.bind ?_ (fun _ => ?_) | exact moultref1_Print.f_lim _ _ _ | exact IsLim.const _
set_option maxRecDepth 10000 in
theorem moultlaw1_ValuePrints.fL_eq (a0_0 : Int) (a0_1 : Int) (a0_2 : ByteArray) : moultlaw1_ValuePrints.fL a0_0 a0_1 a0_2 = (moultlaw1_shown.fL).bind fun t212 => (if t212 = true then (moultlaw1_ValuePrints.j0L t212 (decide ((a0_2.size : Int) > 3000)) a0_0 a0_1 a0_2) else (moultlaw1_ValuePrints.j0L t212 true a0_0 a0_1 a0_2)) := by
  refine (moultlaw1_ValuePrints.f_lim a0_0 a0_1 a0_2).unique ?_
  simp only [moultlaw1_ValuePrints.f]
  repeat' first | with_reducible exact IsLim.const _ | with_reducible refine IsLim.ite ?_ ?_ | with_reducible refine IsLim.bind ?_ (fun _ => ?_) | exact moultlaw1_shown.f_lim | exact moultlaw1_ValuePrints.j0_lim _ _ _ _ _ | exact IsLim.const _
set_option maxRecDepth 10000 in
theorem moultref1_number.j0L_eq (x0 : ByteArray) (x3 : Int) (x4 : Bool) : moultref1_number.j0L x0 x3 x4 = moultref1_number.l0L x0 x3 x4 0 := by
  refine (moultref1_number.j0_lim x0 x3 x4).unique (IsLim.succ (fun k => (moultref1_number.mono_l k).1 x0 x3 x4) ?_)
  simp only [moultref1_number.j0]
  repeat' first | with_reducible exact IsLim.const _ | with_reducible refine IsLim.ite ?_ ?_ | with_reducible refine IsLim.bind ?_ (fun _ => ?_) | exact moultref1_number.l0_lim _ _ _ _ | exact IsLim.const _
set_option maxRecDepth 10000 in
theorem moultref1_number.l0L_eq (x0 : ByteArray) (x3 : Int) (x4 : Bool) (x5 : Int) : moultref1_number.l0L x0 x3 x4 x5 = if x5 < (x0.size : Int) then (if 0 ≤ x5 then (if (bt x0 x5) < 48 then (moultref1_number.j2L x0 x3 x4 x5 true) else (moultref1_number.j2L x0 x3 x4 x5 (decide ((bt x0 x5) > 57)))) else (none)) else (if x4 = true then (some x3) else (some (wrap64 (-x3)))) := by
  refine (moultref1_number.l0_lim x0 x3 x4 x5).unique (IsLim.succ (fun k => (moultref1_number.mono_l k).2.1 x0 x3 x4 x5) ?_)
  simp only [moultref1_number.l0]
  repeat' first | with_reducible exact IsLim.const _ | with_reducible refine IsLim.ite ?_ ?_ | with_reducible refine IsLim.bind ?_ (fun _ => ?_) | exact moultref1_number.j2_lim _ _ _ _ _ | exact IsLim.const _
set_option maxRecDepth 10000 in
theorem moultref1_number.j2L_eq (x0 : ByteArray) (x3 : Int) (x4 : Bool) (x5 : Int) (x30 : Bool) : moultref1_number.j2L x0 x3 x4 x5 x30 = if x30 = true then (moultref1_number.l0L x0 x3 x4 (wrap64 (x5 + 1))) else (if 0 ≤ x5 then (if x5 < (x0.size : Int) then (if x3 < (-922337203685477580) then (some 0) else (if x3 = (-922337203685477580) then (if (((bt x0 x5) - 48) % 256) > 8 then (some 0) else (if (((bt x0 x5) - 48) % 256) > 7 then (if x4 = true then (moultref1_number.l0L x0 (wrap64 ((wrap64 (10 * x3)) - (((bt x0 x5) - 48) % 256))) x4 (wrap64 (x5 + 1))) else (some 0)) else (moultref1_number.l0L x0 (wrap64 ((wrap64 (10 * x3)) - (((bt x0 x5) - 48) % 256))) x4 (wrap64 (x5 + 1))))) else (moultref1_number.l0L x0 (wrap64 ((wrap64 (10 * x3)) - (((bt x0 x5) - 48) % 256))) x4 (wrap64 (x5 + 1))))) else (none)) else (none)) := by
  refine (moultref1_number.j2_lim x0 x3 x4 x5 x30).unique (IsLim.succ (fun k => (moultref1_number.mono_l k).2.2 x0 x3 x4 x5 x30) ?_)
  simp only [moultref1_number.j2]
  repeat' first | with_reducible exact IsLim.const _ | with_reducible refine IsLim.ite ?_ ?_ | with_reducible refine IsLim.bind ?_ (fun _ => ?_) | exact moultref1_number.l0_lim _ _ _ _ | exact IsLim.const _
set_option maxRecDepth 10000 in
theorem moultref1_number.fL_eq (a0 : ByteArray) : moultref1_number.fL a0 = if (a0.size : Int) > 0 then (if 0 < (a0.size : Int) then (moultref1_number.j0L a0 0 ((bt a0 0) == 45)) else (none)) else (moultref1_number.j0L a0 0 false) := by
  refine (moultref1_number.f_lim a0).unique ?_
  simp only [moultref1_number.f]
  repeat' first | with_reducible exact IsLim.const _ | with_reducible refine IsLim.ite ?_ ?_ | with_reducible refine IsLim.bind ?_ (fun _ => ?_) | exact moultref1_number.j0_lim _ _ _ | exact IsLim.const _
set_option maxRecDepth 10000 in
theorem moultref1_hex.j0L_eq (x0 : Int) (x3 : Bool) : moultref1_hex.j0L x0 x3 = if x3 = true then (some ((x0 - 48) % 256)) else (if x0 ≥ 97 then (if x0 ≤ 102 then (some (((x0 - 97) % 256) + 10)) else (some (-1))) else (some (-1))) := by
  refine (moultref1_hex.j0_lim x0 x3).unique (IsLim.succ (fun k => (moultref1_hex.mono_l k) x0 x3) ?_)
  simp only [moultref1_hex.j0]
  repeat' first | with_reducible exact IsLim.const _ | with_reducible refine IsLim.ite ?_ ?_ | with_reducible refine IsLim.bind ?_ (fun _ => ?_) | exact IsLim.const _
set_option maxRecDepth 10000 in
theorem moultref1_hex.fL_eq (a0 : Int) : moultref1_hex.fL a0 = if a0 ≥ 48 then (moultref1_hex.j0L a0 (decide (a0 ≤ 57))) else (moultref1_hex.j0L a0 false) := by
  refine (moultref1_hex.f_lim a0).unique ?_
  simp only [moultref1_hex.f]
  repeat' first | with_reducible exact IsLim.const _ | with_reducible refine IsLim.ite ?_ ?_ | with_reducible refine IsLim.bind ?_ (fun _ => ?_) | exact moultref1_hex.j0_lim _ _ | exact IsLim.const _
set_option maxRecDepth 10000 in
theorem moultref1_unquoted.l0L_eq (x0 : ByteArray) (x3 : List Int) (x4 : Int) : moultref1_unquoted.l0L x0 x3 x4 = if x4 < (x0.size : Int) then (if 0 ≤ x4 then (if (bt x0 x4) = 92 then (moultref1_unquoted.j1L x0 x3 x4 (decide ((wrap64 (x4 + 1)) ≥ (x0.size : Int)))) else (moultref1_unquoted.j1L x0 x3 x4 true)) else (none)) else (some (strOfNums x3)) := by
  refine (moultref1_unquoted.l0_lim x0 x3 x4).unique (IsLim.succ (fun k => (moultref1_unquoted.mono_l k).1 x0 x3 x4) ?_)
  simp only [moultref1_unquoted.l0]
  repeat' first | with_reducible exact IsLim.const _ | with_reducible refine IsLim.ite ?_ ?_ | with_reducible refine IsLim.bind ?_ (fun _ => ?_) | exact moultref1_unquoted.j1_lim _ _ _ _ | exact IsLim.const _
set_option maxRecDepth 10000 in
theorem moultref1_unquoted.j1L_eq (x0 : ByteArray) (x3 : List Int) (x4 : Int) (x21 : Bool) : moultref1_unquoted.j1L x0 x3 x4 x21 = if x21 = true then (if 0 ≤ x4 then (if x4 < (x0.size : Int) then (if x3.length < 140737488355328 then (moultref1_unquoted.l0L x0 (x3 ++ [bt x0 x4]) (wrap64 (x4 + 1))) else (none)) else (none)) else (none)) else (if 0 ≤ (wrap64 (x4 + 1)) then (if (wrap64 (x4 + 1)) < (x0.size : Int) then (if (bt x0 (wrap64 (x4 + 1))) = 120 then (if (wrap64 (x4 + 3)) ≥ (x0.size : Int) then (moultref1_unquoted.j2L x0 x3 x4 true) else (if 0 ≤ (wrap64 (x4 + 2)) then (if (wrap64 (x4 + 2)) < (x0.size : Int) then ((moultref1_hex.fL (bt x0 (wrap64 (x4 + 2)))).bind fun t218 => (if t218 < 0 then (moultref1_unquoted.j2L x0 x3 x4 true) else (if 0 ≤ (wrap64 (x4 + 3)) then (if (wrap64 (x4 + 3)) < (x0.size : Int) then ((moultref1_hex.fL (bt x0 (wrap64 (x4 + 3)))).bind fun t219 => (moultref1_unquoted.j2L x0 x3 x4 (decide (t219 < 0)))) else (none)) else (none)))) else (none)) else (none))) else (moultref1_unquoted.j2L x0 x3 x4 true)) else (none)) else (none)) := by
  refine (moultref1_unquoted.j1_lim x0 x3 x4 x21).unique (IsLim.succ (fun k => (moultref1_unquoted.mono_l k).2.1 x0 x3 x4 x21) ?_)
  simp only [moultref1_unquoted.j1]
  repeat' first | with_reducible exact IsLim.const _ | with_reducible refine IsLim.ite ?_ ?_ | with_reducible refine IsLim.bind ?_ (fun _ => ?_) | exact moultref1_unquoted.l0_lim _ _ _ | exact moultref1_unquoted.j2_lim _ _ _ _ | exact moultref1_hex.f_lim _ | exact IsLim.const _
set_option maxRecDepth 10000 in
theorem moultref1_unquoted.j2L_eq (x0 : ByteArray) (x3 : List Int) (x4 : Int) (x55 : Bool) : moultref1_unquoted.j2L x0 x3 x4 x55 = if x55 = true then (if 0 ≤ (wrap64 (x4 + 1)) then (if (wrap64 (x4 + 1)) < (x0.size : Int) then (if x3.length < 140737488355328 then (moultref1_unquoted.l0L x0 (x3 ++ [bt x0 (wrap64 (x4 + 1))]) (wrap64 ((wrap64 (x4 + 1)) + 1))) else (none)) else (none)) else (none)) else (if 0 ≤ (wrap64 (x4 + 2)) then (if (wrap64 (x4 + 2)) < (x0.size : Int) then ((moultref1_hex.fL (bt x0 (wrap64 (x4 + 2)))).bind fun t223 => (if 0 ≤ (wrap64 (x4 + 3)) then (if (wrap64 (x4 + 3)) < (x0.size : Int) then ((moultref1_hex.fL (bt x0 (wrap64 (x4 + 3)))).bind fun t224 => (if x3.length < 140737488355328 then (moultref1_unquoted.l0L x0 (x3 ++ [(wrap64 ((wrap64 (16 * t223)) + t224)) % 256]) (wrap64 ((wrap64 (x4 + 3)) + 1))) else (none))) else (none)) else (none))) else (none)) else (none)) := by
  refine (moultref1_unquoted.j2_lim x0 x3 x4 x55).unique (IsLim.succ (fun k => (moultref1_unquoted.mono_l k).2.2 x0 x3 x4 x55) ?_)
  simp only [moultref1_unquoted.j2]
  repeat' first | with_reducible exact IsLim.const _ | with_reducible refine IsLim.ite ?_ ?_ | with_reducible refine IsLim.bind ?_ (fun _ => ?_) | exact moultref1_unquoted.l0_lim _ _ _ | exact moultref1_hex.f_lim _ | exact IsLim.const _
set_option maxRecDepth 10000 in
theorem moultref1_unquoted.fL_eq (a0 : ByteArray) : moultref1_unquoted.fL a0 = moultref1_unquoted.l0L a0 ([] : List Int) 0 := by
  refine (moultref1_unquoted.f_lim a0).unique ?_
  simp only [moultref1_unquoted.f]
  repeat' first | with_reducible exact IsLim.const _ | with_reducible refine IsLim.ite ?_ ?_ | with_reducible refine IsLim.bind ?_ (fun _ => ?_) | exact moultref1_unquoted.l0_lim _ _ _ | exact IsLim.const _
set_option maxRecDepth 10000 in
theorem moultref1_Read.j0L_eq (x0 : ByteArray) (x4 : List (S23)) (x17 : Bool) : moultref1_Read.j0L x0 x4 x17 = if x17 = true then ((moultref1_number.fL x0).bind fun t232 => ((moultref1_number.fL x0).bind fun t233 => ((moultref1_number.fL x0).bind fun t234 => ((some (([(⟨4, t232, (⟨#[]⟩ : ByteArray)⟩ : S23), (⟨3, t233, (⟨#[]⟩ : ByteArray)⟩ : S23), (⟨2, t234, (⟨#[]⟩ : ByteArray)⟩ : S23)] : List (S23)) : List (S23))).bind fun y235 => (if x4.length + y235.length < 4398046511104 then (moultref1_Read.j1L x0 (x4 ++ y235)) else (none)))))) else (moultref1_Read.j1L x0 x4) := by
  refine (moultref1_Read.j0_lim x0 x4 x17).unique (IsLim.succ (fun k => (moultref1_Read.mono_l k).1 x0 x4 x17) ?_)
  simp only [moultref1_Read.j0]
  repeat' first | with_reducible exact IsLim.const _ | with_reducible refine IsLim.ite ?_ ?_ | with_reducible refine IsLim.bind ?_ (fun _ => ?_) | exact moultref1_number.f_lim _ | exact moultref1_Read.j1_lim _ _ | exact IsLim.const _
set_option maxRecDepth 10000 in
theorem moultref1_Read.j1L_eq (x0 : ByteArray) (x4 : List (S23)) : moultref1_Read.j1L x0 x4 = if (x0.size : Int) ≥ 2 then (if 1 ≤ (wrap64 ((x0.size : Int) - 1)) then (if (wrap64 ((x0.size : Int) - 1)) ≤ (x0.size : Int) then ((moultref1_unquoted.fL (x0.extract 1 ((wrap64 ((x0.size : Int) - 1)) : Int).toNat)).bind fun t241 => ((some (([(⟨5, 0, t241⟩ : S23), (⟨6, 0, t241⟩ : S23)] : List (S23)) : List (S23))).bind fun y242 => (if x4.length + y242.length < 4398046511104 then (moultref1_Read.j2L x0 (x4 ++ y242)) else (none)))) else (none)) else (none)) else (moultref1_Read.j2L x0 x4) := by
  refine (moultref1_Read.j1_lim x0 x4).unique (IsLim.succ (fun k => (moultref1_Read.mono_l k).2.1 x0 x4) ?_)
  simp only [moultref1_Read.j1]
  repeat' first | with_reducible exact IsLim.const _ | with_reducible refine IsLim.ite ?_ ?_ | with_reducible refine IsLim.bind ?_ (fun _ => ?_) | exact moultref1_unquoted.f_lim _ | exact moultref1_Read.j2_lim _ _ | exact IsLim.const _
set_option maxRecDepth 10000 in
theorem moultref1_Read.j2L_eq (x0 : ByteArray) (x4 : List (S23)) : moultref1_Read.j2L x0 x4 = moultref1_Read.l0L x0 x4 0 := by
  refine (moultref1_Read.j2_lim x0 x4).unique (IsLim.succ (fun k => (moultref1_Read.mono_l k).2.2.1 x0 x4) ?_)
  simp only [moultref1_Read.j2]
  repeat' first | with_reducible exact IsLim.const _ | with_reducible refine IsLim.ite ?_ ?_ | with_reducible refine IsLim.bind ?_ (fun _ => ?_) | exact moultref1_Read.l0_lim _ _ _ | exact IsLim.const _
set_option maxRecDepth 10000 in
theorem moultref1_Read.l0L_eq (x0 : ByteArray) (x4 : List (S23)) (x6 : Int) : moultref1_Read.l0L x0 x4 x6 = if x6 < (x4.length : Int) then (if x0.toList = ([] : List UInt8) then (moultref1_Read.l0L x0 x4 (wrap64 (x6 + 1))) else (if 0 ≤ x6 then ((moultref1_Print.fL ((rd_T23 x4 x6).f0) ((rd_T23 x4 x6).f1) ((rd_T23 x4 x6).f2)).bind fun t249 => (if t249.toList = x0.toList then (some ((rd_T23 x4 x6).f0, (rd_T23 x4 x6).f1, (rd_T23 x4 x6).f2, 0)) else (moultref1_Read.l0L x0 x4 (wrap64 (x6 + 1))))) else (none))) else (some (0, 0, (⟨#[]⟩ : ByteArray), 8)) := by
  refine (moultref1_Read.l0_lim x0 x4 x6).unique (IsLim.succ (fun k => (moultref1_Read.mono_l k).2.2.2 x0 x4 x6) ?_)
  simp only [moultref1_Read.l0]
  repeat' first | with_reducible exact IsLim.const _ | with_reducible refine IsLim.ite ?_ ?_ | with_reducible refine IsLim.bind ?_ (fun _ => ?_) | exact moultref1_Read.l0_lim _ _ _ | exact moultref1_Print.f_lim _ _ _ | exact IsLim.const _
set_option maxRecDepth 10000 in
theorem moultref1_Read.fL_eq (a0 : ByteArray) : moultref1_Read.fL a0 = (some (([(⟨1, 0, (⟨#[]⟩ : ByteArray)⟩ : S23), (⟨1, 1, (⟨#[]⟩ : ByteArray)⟩ : S23)] : List (S23)) : List (S23))).bind fun y229 => (if (a0.size : Int) > 0 then (moultref1_Read.j0L a0 y229 (decide ((a0.size : Int) < 24))) else (moultref1_Read.j0L a0 y229 false)) := by
  refine (moultref1_Read.f_lim a0).unique ?_
  simp only [moultref1_Read.f]
  repeat' first | with_reducible exact IsLim.const _ | with_reducible refine IsLim.ite ?_ ?_ | with_reducible refine IsLim.bind ?_ (fun _ => ?_) | exact moultref1_Read.j0_lim _ _ _ | exact IsLim.const _
set_option maxRecDepth 10000 in
theorem moultlaw1_ValueReads.j0L_eq (x0 : ByteArray) (x3 : Bool) (x15 : Bool) : moultlaw1_ValueReads.j0L x0 x3 x15 = if x15 = true then (some x3) else ((value_Read.f x0).bind fun bt252 => ((moultref1_Read.fL x0).bind fun bt257 => (if (bt252.1 == bt257.1 && (bt252.2.1 == bt257.2.1 && (bt252.2.2.1.toList == bt257.2.2.1.toList))) = true then (some (bt252.2.2.2 == bt257.2.2.2)) else (some false)))) := by
  refine (moultlaw1_ValueReads.j0_lim x0 x3 x15).unique (IsLim.succ (fun k => (moultlaw1_ValueReads.mono_l k) x0 x3 x15) ?_)
  simp only [moultlaw1_ValueReads.j0]
  repeat' first | with_reducible exact IsLim.const _ | with_reducible refine IsLim.ite ?_ ?_ | with_reducible refine IsLim.bind ?_ (fun _ => ?_) | exact moultref1_Read.f_lim _ | exact IsLim.const _
set_option maxRecDepth 10000 in
theorem moultlaw1_ValueReads.fL_eq (a0 : ByteArray) : moultlaw1_ValueReads.fL a0 = (moultlaw1_shown.fL).bind fun t251 => (if t251 = true then (moultlaw1_ValueReads.j0L a0 t251 (decide ((a0.size : Int) > 5000))) else (moultlaw1_ValueReads.j0L a0 t251 true)) := by
  refine (moultlaw1_ValueReads.f_lim a0).unique ?_
  simp only [moultlaw1_ValueReads.f]
  repeat' first | with_reducible exact IsLim.const _ | with_reducible refine IsLim.ite ?_ ?_ | with_reducible refine IsLim.bind ?_ (fun _ => ?_) | exact moultlaw1_shown.f_lim | exact moultlaw1_ValueReads.j0_lim _ _ _ | exact IsLim.const _
end Go.Proofs.YtnedhbnbhedgeaaDoor.PAll
