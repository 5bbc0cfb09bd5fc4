/- Printed functions without a bound on rounds, and their equations: laid by genlim.py (a program of the session). -/
import Derived.Test.YtnedhbnbhedgeaaDoorPAllx4
import Derived.Test.YtnedhbnbhedgeaaDoorPAllx5
import Derived.Test.YtnedhbnbhedgeaaDoorLi
import Derived.Test.YtnedhbnbhedgeaaDoorLa
namespace Go.Proofs.YtnedhbnbhedgeaaDoor.PAll
open Go.Proofs.YtnedhbnbhedgeaaDoor Go.RowKit Go.Proofs.YtnedhbnbhedgeaaDoorW.PrintWords Go.Proofs.YtnedhbnbhedgeaaDoorW.PrintLast Go.Proofs.YtnedhbnbhedgeaaDoorW.PrintMore
set_option linter.unusedVariables false

noncomputable def moultlaw1_ValueCompares.j0L (x5 : Bool) (x20 : Bool) (x165000 : Int) (x165001 : Int) (x165002 : ByteArray) (x166000 : Int) (x166001 : Int) (x166002 : ByteArray) : Option (Bool) := lim (fun k => moultlaw1_ValueCompares.j0 k x5 x20 x165000 x165001 x165002 x166000 x166001 x166002)
theorem moultlaw1_ValueCompares.j0_lim (x5 : Bool) (x20 : Bool) (x165000 : Int) (x165001 : Int) (x165002 : ByteArray) (x166000 : Int) (x166001 : Int) (x166002 : ByteArray) : IsLim (fun k => moultlaw1_ValueCompares.j0 k x5 x20 x165000 x165001 x165002 x166000 x166001 x166002) (moultlaw1_ValueCompares.j0L x5 x20 x165000 x165001 x165002 x166000 x166001 x166002) := isLim_lim (fun k => (moultlaw1_ValueCompares.mono_l k) x5 x20 x165000 x165001 x165002 x166000 x166001 x166002)
noncomputable def moultlaw1_ValueCompares.fL (a0_0 : Int) (a0_1 : Int) (a0_2 : ByteArray) (a1_0 : Int) (a1_1 : Int) (a1_2 : ByteArray) : Option (Bool) := lim (fun k => moultlaw1_ValueCompares.f k a0_0 a0_1 a0_2 a1_0 a1_1 a1_2)
theorem moultlaw1_ValueCompares.f_lim (a0_0 : Int) (a0_1 : Int) (a0_2 : ByteArray) (a1_0 : Int) (a1_1 : Int) (a1_2 : ByteArray) : IsLim (fun k => moultlaw1_ValueCompares.f k a0_0 a0_1 a0_2 a1_0 a1_1 a1_2) (moultlaw1_ValueCompares.fL a0_0 a0_1 a0_2 a1_0 a1_1 a1_2) := isLim_lim (fun k => moultlaw1_ValueCompares.mono a0_0 a0_1 a0_2 a1_0 a1_1 a1_2 k)
noncomputable def moultref1_digits.fL (a0 : Int) : Option (ByteArray) := lim (fun k => moultref1_digits.f k a0)
theorem moultref1_digits.f_lim (a0 : Int) : IsLim (fun k => moultref1_digits.f k a0) (moultref1_digits.fL a0) := isLim_lim (fun k => (moultref1_digits.mono_l k) a0)
noncomputable def moultref1_Decimal.fL (a0 : Int) : Option (ByteArray) := lim (fun k => moultref1_Decimal.f k a0)
theorem moultref1_Decimal.f_lim (a0 : Int) : IsLim (fun k => moultref1_Decimal.f k a0) (moultref1_Decimal.fL a0) := isLim_lim (fun k => moultref1_Decimal.mono a0 k)
noncomputable def moultref1_quoted.l0L (x0 : ByteArray) (x1 : Int) (x5 : List Int) (x6 : Int) : Option (ByteArray) := lim (fun k => moultref1_quoted.l0 k x0 x1 x5 x6)
theorem moultref1_quoted.l0_lim (x0 : ByteArray) (x1 : Int) (x5 : List Int) (x6 : Int) : IsLim (fun k => moultref1_quoted.l0 k x0 x1 x5 x6) (moultref1_quoted.l0L x0 x1 x5 x6) := isLim_lim (fun k => (moultref1_quoted.mono_l k).1 x0 x1 x5 x6)
noncomputable def moultref1_quoted.j1L (x0 : ByteArray) (x1 : Int) (x5 : List Int) (x6 : Int) (x7 : Int) (x28 : Bool) : Option (ByteArray) := lim (fun k => moultref1_quoted.j1 k x0 x1 x5 x6 x7 x28)
theorem moultref1_quoted.j1_lim (x0 : ByteArray) (x1 : Int) (x5 : List Int) (x6 : Int) (x7 : Int) (x28 : Bool) : IsLim (fun k => moultref1_quoted.j1 k x0 x1 x5 x6 x7 x28) (moultref1_quoted.j1L x0 x1 x5 x6 x7 x28) := isLim_lim (fun k => (moultref1_quoted.mono_l k).2 x0 x1 x5 x6 x7 x28)
noncomputable def moultref1_quoted.fL (a0 : ByteArray) (a1 : Int) : Option (ByteArray) := lim (fun k => moultref1_quoted.f k a0 a1)
theorem moultref1_quoted.f_lim (a0 : ByteArray) (a1 : Int) : IsLim (fun k => moultref1_quoted.f k a0 a1) (moultref1_quoted.fL a0 a1) := isLim_lim (fun k => moultref1_quoted.mono a0 a1 k)
noncomputable def moultref1_Print.fL (a0_0 : Int) (a0_1 : Int) (a0_2 : ByteArray) : Option (ByteArray) := lim (fun k => moultref1_Print.f k a0_0 a0_1 a0_2)
theorem moultref1_Print.f_lim (a0_0 : Int) (a0_1 : Int) (a0_2 : ByteArray) : IsLim (fun k => moultref1_Print.f k a0_0 a0_1 a0_2) (moultref1_Print.fL a0_0 a0_1 a0_2) := isLim_lim (fun k => moultref1_Print.mono a0_0 a0_1 a0_2 k)

set_option maxRecDepth 10000 in
theorem moultlaw1_ValueCompares.j0L_eq (x5 : Bool) (x20 : Bool) (x165000 : Int) (x165001 : Int) (x165002 : ByteArray) (x166000 : Int) (x166001 : Int) (x166002 : ByteArray) : moultlaw1_ValueCompares.j0L x5 x20 x165000 x165001 x165002 x166000 x166001 x166002 = if x20 = true then (some x5) else ((value_Compare.fL x165000 x165001 x165002 x166000 x166001 x166002).bind fun t167 => ((moultref1_Compare.fL x165000 x165001 x165002 x166000 x166001 x166002).bind fun t168 => (some (t167 == t168)))) := by
  refine (moultlaw1_ValueCompares.j0_lim x5 x20 x165000 x165001 x165002 x166000 x166001 x166002).unique (IsLim.succ (fun k => (moultlaw1_ValueCompares.mono_l k) x5 x20 x165000 x165001 x165002 x166000 x166001 x166002) ?_)
  simp only [moultlaw1_ValueCompares.j0]
  repeat' first | with_reducible exact IsLim.const _ | with_reducible refine IsLim.ite ?_ ?_ | with_reducible refine IsLim.bind ?_ (fun _ => ?_) | exact value_Compare.f_lim _ _ _ _ _ _ | exact moultref1_Compare.f_lim _ _ _ _ _ _ | exact IsLim.const _
set_option maxRecDepth 10000 in
theorem moultlaw1_ValueCompares.fL_eq (a0_0 : Int) (a0_1 : Int) (a0_2 : ByteArray) (a1_0 : Int) (a1_1 : Int) (a1_2 : ByteArray) : moultlaw1_ValueCompares.fL a0_0 a0_1 a0_2 a1_0 a1_1 a1_2 = (moultlaw1_shown.fL).bind fun t166 => (if t166 = true then (if (a0_2.size : Int) > 3000 then (moultlaw1_ValueCompares.j0L t166 true a0_0 a0_1 a0_2 a1_0 a1_1 a1_2) else (moultlaw1_ValueCompares.j0L t166 (decide ((a1_2.size : Int) > 3000)) a0_0 a0_1 a0_2 a1_0 a1_1 a1_2)) else (moultlaw1_ValueCompares.j0L t166 true a0_0 a0_1 a0_2 a1_0 a1_1 a1_2)) := by
  refine (moultlaw1_ValueCompares.f_lim a0_0 a0_1 a0_2 a1_0 a1_1 a1_2).unique ?_
  simp only [moultlaw1_ValueCompares.f]
  repeat' first | with_reducible exact IsLim.const _ | with_reducible refine IsLim.ite ?_ ?_ | with_reducible refine IsLim.bind ?_ (fun _ => ?_) | exact moultlaw1_shown.f_lim | exact moultlaw1_ValueCompares.j0_lim _ _ _ _ _ _ _ _ | exact IsLim.const _
set_option maxRecDepth 10000 in
theorem moultref1_digits.fL_eq (a0 : Int) : moultref1_digits.fL a0 = if a0 > (-10) then (if 0 ≤ (wrap64 (-(Int.tmod a0 10))) then (if (wrap64 (-(Int.tmod a0 10))) ≤ (wrap64 ((wrap64 (-(Int.tmod a0 10))) + 1)) then (if (wrap64 ((wrap64 (-(Int.tmod a0 10))) + 1)) ≤ 10 then (some ((⟨#[48, 49, 50, 51, 52, 53, 54, 55, 56, 57]⟩ : ByteArray).extract ((wrap64 (-(Int.tmod a0 10))) : Int).toNat ((wrap64 ((wrap64 (-(Int.tmod a0 10))) + 1)) : Int).toNat)) else (none)) else (none)) else (none)) else ((moultref1_digits.fL (wrap64 (Int.tdiv a0 10))).bind fun t170 => (if 0 ≤ (wrap64 (-(Int.tmod a0 10))) then (if (wrap64 (-(Int.tmod a0 10))) ≤ (wrap64 ((wrap64 (-(Int.tmod a0 10))) + 1)) then (if (wrap64 ((wrap64 (-(Int.tmod a0 10))) + 1)) ≤ 10 then (if t170.size + ((⟨#[48, 49, 50, 51, 52, 53, 54, 55, 56, 57]⟩ : ByteArray).extract ((wrap64 (-(Int.tmod a0 10))) : Int).toNat ((wrap64 ((wrap64 (-(Int.tmod a0 10))) + 1)) : Int).toNat).size ≤ 9223372036854775807 then (some (t170 ++ ((⟨#[48, 49, 50, 51, 52, 53, 54, 55, 56, 57]⟩ : ByteArray).extract ((wrap64 (-(Int.tmod a0 10))) : Int).toNat ((wrap64 ((wrap64 (-(Int.tmod a0 10))) + 1)) : Int).toNat))) else (none)) else (none)) else (none)) else (none))) := by
  refine (moultref1_digits.f_lim a0).unique (IsLim.succ (fun k => (moultref1_digits.mono_l k) a0) ?_)
  simp only [moultref1_digits.f]
  repeat' first | with_reducible exact IsLim.const _ | with_reducible refine IsLim.ite ?_ ?_ | with_reducible refine IsLim.bind ?_ (fun _ => ?_) | exact moultref1_digits.f_lim _ | exact IsLim.const _
set_option maxRecDepth 10000 in
theorem moultref1_Decimal.fL_eq (a0 : Int) : moultref1_Decimal.fL a0 = if a0 < 0 then ((moultref1_digits.fL a0).bind fun t171 => (if 1 + t171.size ≤ 9223372036854775807 then (some ((⟨#[45]⟩ : ByteArray) ++ t171)) else (none))) else ((moultref1_digits.fL (wrap64 (-a0))).bind fun t172 => (some t172)) := by
  refine (moultref1_Decimal.f_lim a0).unique ?_
  simp only [moultref1_Decimal.f]
  repeat' first | with_reducible exact IsLim.const _ | with_reducible refine IsLim.ite ?_ ?_ | with_reducible refine IsLim.bind ?_ (fun _ => ?_) | exact moultref1_digits.f_lim _ | exact IsLim.const _
set_option maxRecDepth 10000 in
theorem moultref1_quoted.l0L_eq (x0 : ByteArray) (x1 : Int) (x5 : List Int) (x6 : Int) : moultref1_quoted.l0L x0 x1 x5 x6 = if x6 < (x0.size : Int) then (if 0 ≤ x6 then (if (bt x0 x6) = x1 then (moultref1_quoted.j1L x0 x1 x5 x6 (bt x0 x6) true) else (moultref1_quoted.j1L x0 x1 x5 x6 (bt x0 x6) ((bt x0 x6) == 92))) else (none)) else (if x5.length < 140737488355328 then (some (strOfNums (x5 ++ [x1]))) else (none)) := by
  refine (moultref1_quoted.l0_lim x0 x1 x5 x6).unique (IsLim.succ (fun k => (moultref1_quoted.mono_l k).1 x0 x1 x5 x6) ?_)
  simp only [moultref1_quoted.l0]
  repeat' first | with_reducible exact IsLim.const _ | with_reducible refine IsLim.ite ?_ ?_ | with_reducible refine IsLim.bind ?_ (fun _ => ?_) | exact moultref1_quoted.j1_lim _ _ _ _ _ _ | exact IsLim.const _
set_option maxRecDepth 10000 in
theorem moultref1_quoted.j1L_eq (x0 : ByteArray) (x1 : Int) (x5 : List Int) (x6 : Int) (x7 : Int) (x28 : Bool) : moultref1_quoted.j1L x0 x1 x5 x6 x7 x28 = if x28 = true then ((some (([92, x7] : List Int) : List Int)).bind fun y179 => (if x5.length + y179.length < 140737488355328 then (moultref1_quoted.l0L x0 x1 (x5 ++ y179) (wrap64 (x6 + 1))) else (none))) else (if x7 ≥ 32 then (if x7 ≤ 126 then (if x5.length < 140737488355328 then (moultref1_quoted.l0L x0 x1 (x5 ++ [x7]) (wrap64 (x6 + 1))) else (none)) else (if 0 ≤ ((Int.tdiv x7 16) % 256) then (if ((Int.tdiv x7 16) % 256) < 16 then (if 0 ≤ (Int.tmod x7 16) then (if (Int.tmod x7 16) < 16 then ((some (([92, 120, bt (⟨#[48, 49, 50, 51, 52, 53, 54, 55, 56, 57, 97, 98, 99, 100, 101, 102]⟩ : ByteArray) ((Int.tdiv x7 16) % 256), bt (⟨#[48, 49, 50, 51, 52, 53, 54, 55, 56, 57, 97, 98, 99, 100, 101, 102]⟩ : ByteArray) (Int.tmod x7 16)] : List Int) : List Int)).bind fun y188 => (if x5.length + y188.length < 140737488355328 then (moultref1_quoted.l0L x0 x1 (x5 ++ y188) (wrap64 (x6 + 1))) else (none))) else (none)) else (none)) else (none)) else (none))) else (if 0 ≤ ((Int.tdiv x7 16) % 256) then (if ((Int.tdiv x7 16) % 256) < 16 then (if 0 ≤ (Int.tmod x7 16) then (if (Int.tmod x7 16) < 16 then ((some (([92, 120, bt (⟨#[48, 49, 50, 51, 52, 53, 54, 55, 56, 57, 97, 98, 99, 100, 101, 102]⟩ : ByteArray) ((Int.tdiv x7 16) % 256), bt (⟨#[48, 49, 50, 51, 52, 53, 54, 55, 56, 57, 97, 98, 99, 100, 101, 102]⟩ : ByteArray) (Int.tmod x7 16)] : List Int) : List Int)).bind fun y194 => (if x5.length + y194.length < 140737488355328 then (moultref1_quoted.l0L x0 x1 (x5 ++ y194) (wrap64 (x6 + 1))) else (none))) else (none)) else (none)) else (none)) else (none))) := by
  refine (moultref1_quoted.j1_lim x0 x1 x5 x6 x7 x28).unique (IsLim.succ (fun k => (moultref1_quoted.mono_l k).2 x0 x1 x5 x6 x7 x28) ?_)
  simp only [moultref1_quoted.j1]
  repeat' first | with_reducible exact IsLim.const _ | with_reducible refine IsLim.ite ?_ ?_ | with_reducible refine IsLim.bind ?_ (fun _ => ?_) | exact moultref1_quoted.l0_lim _ _ _ _ | exact IsLim.const _
set_option maxRecDepth 10000 in
theorem moultref1_quoted.fL_eq (a0 : ByteArray) (a1 : Int) : moultref1_quoted.fL a0 a1 = moultref1_quoted.l0L a0 a1 (([a1] : List Int)) 0 := by
  refine (moultref1_quoted.f_lim a0 a1).unique ?_
  simp only [moultref1_quoted.f]
  repeat' first | with_reducible exact IsLim.const _ | with_reducible refine IsLim.ite ?_ ?_ | with_reducible refine IsLim.bind ?_ (fun _ => ?_) | exact moultref1_quoted.l0_lim _ _ _ _ | exact IsLim.const _
set_option maxRecDepth 10000 in
theorem moultref1_Print.fL_eq (a0_0 : Int) (a0_1 : Int) (a0_2 : ByteArray) : moultref1_Print.fL a0_0 a0_1 a0_2 = (moultref1_Right.f a0_0 a0_1 a0_2).bind fun t201 => (if t201 = true then (if a0_0 = 1 then ((some (([(⟨#[110, 111]⟩ : ByteArray), (⟨#[121, 101, 115]⟩ : ByteArray)] : List ByteArray) : List ByteArray)).bind fun y202 => (if 0 ≤ a0_1 then (if a0_1 < (y202.length : Int) then (some (rdOf ByteArray.empty y202 a0_1)) else (none)) else (none))) else (if a0_0 = 2 then ((moultref1_Decimal.fL a0_1).bind fun t206 => (if t206.size + 1 ≤ 9223372036854775807 then (some (t206 ++ (⟨#[115]⟩ : ByteArray))) else (none))) else (if a0_0 = 3 then ((moultref1_Decimal.fL a0_1).bind fun t207 => (if t207.size + 1 ≤ 9223372036854775807 then (some (t207 ++ (⟨#[105]⟩ : ByteArray))) else (none))) else (if a0_0 = 4 then ((moultref1_Decimal.fL a0_1).bind fun t208 => (some t208)) else (if a0_0 = 5 then ((moultref1_quoted.fL a0_2 39).bind fun t209 => (some t209)) else ((moultref1_quoted.fL a0_2 34).bind fun t210 => (some t210))))))) else (some (⟨#[]⟩ : ByteArray))) := by
  refine (moultref1_Print.f_lim a0_0 a0_1 a0_2).unique ?_
  simp only [moultref1_Print.f]
  repeat' first | with_reducible exact IsLim.const _ | with_reducible refine IsLim.ite ?_ ?_ | with_reducible refine IsLim.bind ?_ (fun _ => ?_) | exact moultref1_Decimal.f_lim _ | exact moultref1_quoted.f_lim _ _ | exact IsLim.const _
end Go.Proofs.YtnedhbnbhedgeaaDoor.PAll
