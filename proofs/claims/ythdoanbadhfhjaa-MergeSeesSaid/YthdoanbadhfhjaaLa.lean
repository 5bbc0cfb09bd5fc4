/- Printed functions without a bound on rounds, and their equations: laid by genlim.py (a program of the session). -/
import Derived.Test.YthdoanbadhfhjaaPAllx1
import Derived.Test.YthdoanbadhfhjaaPAllx2
import Derived.Test.YthdoanbadhfhjaaPAllx3
import Derived.Test.YthdoanbadhfhjaaPAllx4
import Derived.Test.YthdoanbadhfhjaaPAllx5
import Derived.Test.YthdoanbadhfhjaaPAllx6
import Derived.Test.YthdoanbadhfhjaaPAllx7
import Derived.Test.YthdoanbadhfhjaaPAllx8
import Derived.Test.YthdoanbadhfhjaaPAllx9
import Derived.Test.YthdoanbadhfhjaaPAllx10
import Derived.Test.YthdoanbadhfhjaaPAllx11
import Derived.Test.YthdoanbadhfhjaaPAllx12
import Derived.Test.YthdoanbadhfhjaaLi
namespace Go.Proofs.Ythdoanbadhfhjaa.PAll
open Go.Proofs.Ythdoanbadhfhjaa Go.RowKit Go.Proofs.YthdoanbadhfhjaaW.PrintWords Go.Proofs.YthdoanbadhfhjaaW.PrintLast Go.Proofs.YthdoanbadhfhjaaW.PrintMore
set_option linter.unusedVariables false

noncomputable def cmp_Or_int.l0L (x3 : Int) (x6 : List Int) (x7 : Int) (x8 : Int) : Option (Int) := lim (fun k => cmp_Or_int.l0 k x3 x6 x7 x8)
theorem cmp_Or_int.l0_lim (x3 : Int) (x6 : List Int) (x7 : Int) (x8 : Int) : IsLim (fun k => cmp_Or_int.l0 k x3 x6 x7 x8) (cmp_Or_int.l0L x3 x6 x7 x8) := isLim_lim (fun k => (cmp_Or_int.mono_l k) x3 x6 x7 x8)
noncomputable def cmp_Or_int.fL (l0 : List Int) : Option (Int) := lim (fun k => cmp_Or_int.f k l0)
theorem cmp_Or_int.f_lim (l0 : List Int) : IsLim (fun k => cmp_Or_int.f k l0) (cmp_Or_int.fL l0) := isLim_lim (fun k => cmp_Or_int.mono l0 k)
noncomputable def table_order.fL (a0_0 : ByteArray) (a0_1 : Int) (a0_2 : Bool) (a0_3 : ByteArray) (a1_0 : ByteArray) (a1_1 : Int) (a1_2 : Bool) (a1_3 : ByteArray) : Option (Int) := lim (fun k => table_order.f k a0_0 a0_1 a0_2 a0_3 a1_0 a1_1 a1_2 a1_3)
theorem table_order.f_lim (a0_0 : ByteArray) (a0_1 : Int) (a0_2 : Bool) (a0_3 : ByteArray) (a1_0 : ByteArray) (a1_1 : Int) (a1_2 : Bool) (a1_3 : ByteArray) : IsLim (fun k => table_order.f k a0_0 a0_1 a0_2 a0_3 a1_0 a1_1 a1_2 a1_3) (table_order.fL a0_0 a0_1 a0_2 a0_3 a1_0 a1_1 a1_2 a1_3) := isLim_lim (fun k => table_order.mono a0_0 a0_1 a0_2 a0_3 a1_0 a1_1 a1_2 a1_3 k)
noncomputable def table_Less.fL (a0_0 : ByteArray) (a0_1 : Int) (a0_2 : Bool) (a0_3 : ByteArray) (a1_0 : ByteArray) (a1_1 : Int) (a1_2 : Bool) (a1_3 : ByteArray) : Option (Bool) := lim (fun k => table_Less.f k a0_0 a0_1 a0_2 a0_3 a1_0 a1_1 a1_2 a1_3)
theorem table_Less.f_lim (a0_0 : ByteArray) (a0_1 : Int) (a0_2 : Bool) (a0_3 : ByteArray) (a1_0 : ByteArray) (a1_1 : Int) (a1_2 : Bool) (a1_3 : ByteArray) : IsLim (fun k => table_Less.f k a0_0 a0_1 a0_2 a0_3 a1_0 a1_1 a1_2 a1_3) (table_Less.fL a0_0 a0_1 a0_2 a0_3 a1_0 a1_1 a1_2 a1_3) := isLim_lim (fun k => table_Less.mono a0_0 a0_1 a0_2 a0_3 a1_0 a1_1 a1_2 a1_3 k)
noncomputable def api_Entry_36.l0L (x0 : List (S36)) (x1 : List (S36)) (x7 : List (S36)) : Option ((List (S36))) := lim (fun k => api_Entry_36.l0 k x0 x1 x7)
theorem api_Entry_36.l0_lim (x0 : List (S36)) (x1 : List (S36)) (x7 : List (S36)) : IsLim (fun k => api_Entry_36.l0 k x0 x1 x7) (api_Entry_36.l0L x0 x1 x7) := isLim_lim (fun k => (api_Entry_36.mono_l k).1 x0 x1 x7)
noncomputable def api_Entry_36.j1L (x0 : List (S36)) (x1 : List (S36)) (x7 : List (S36)) (x15 : Bool) : Option ((List (S36))) := lim (fun k => api_Entry_36.j1 k x0 x1 x7 x15)
theorem api_Entry_36.j1_lim (x0 : List (S36)) (x1 : List (S36)) (x7 : List (S36)) (x15 : Bool) : IsLim (fun k => api_Entry_36.j1 k x0 x1 x7 x15) (api_Entry_36.j1L x0 x1 x7 x15) := isLim_lim (fun k => (api_Entry_36.mono_l k).2 x0 x1 x7 x15)
noncomputable def api_Entry_36.fL (l0 : List (S36)) (l1 : List (S36)) (a2 : Unit) : Option ((List (S36))) := lim (fun k => api_Entry_36.f k l0 l1 a2)
theorem api_Entry_36.f_lim (l0 : List (S36)) (l1 : List (S36)) (a2 : Unit) : IsLim (fun k => api_Entry_36.f k l0 l1 a2) (api_Entry_36.fL l0 l1 a2) := isLim_lim (fun k => api_Entry_36.mono l0 l1 a2 k)
noncomputable def api_Entry_25.fL (l0 : List (List (S36))) (a1 : Unit) : Option ((List (S36))) := lim (fun k => api_Entry_25.f k l0 a1)
theorem api_Entry_25.f_lim (l0 : List (List (S36))) (a1 : Unit) : IsLim (fun k => api_Entry_25.f k l0 a1) (api_Entry_25.fL l0 a1) := isLim_lim (fun k => (api_Entry_25.mono_l k) l0 a1)
noncomputable def merge_Merge.fL (l0 : List (List (S36))) : Option ((List (S36))) := lim (fun k => merge_Merge.f k l0)
theorem merge_Merge.f_lim (l0 : List (List (S36))) : IsLim (fun k => merge_Merge.f k l0) (merge_Merge.fL l0) := isLim_lim (fun k => merge_Merge.mono l0 k)
noncomputable def moultlaw12_same.l0L (x0 : List (S36)) (x1 : List (S36)) (x5 : Int) : Option (Bool) := lim (fun k => moultlaw12_same.l0 k x0 x1 x5)
theorem moultlaw12_same.l0_lim (x0 : List (S36)) (x1 : List (S36)) (x5 : Int) : IsLim (fun k => moultlaw12_same.l0 k x0 x1 x5) (moultlaw12_same.l0L x0 x1 x5) := isLim_lim (fun k => (moultlaw12_same.mono_l k) x0 x1 x5)
noncomputable def moultlaw12_same.fL (l0 : List (S36)) (l1 : List (S36)) : Option (Bool) := lim (fun k => moultlaw12_same.f k l0 l1)
theorem moultlaw12_same.f_lim (l0 : List (S36)) (l1 : List (S36)) : IsLim (fun k => moultlaw12_same.f k l0 l1) (moultlaw12_same.fL l0 l1) := isLim_lim (fun k => moultlaw12_same.mono l0 l1 k)
noncomputable def merge_groups.l0L (x0 : List (S36)) (x3 : List (List (S36))) : Option ((List (List (S36)))) := lim (fun k => merge_groups.l0 k x0 x3)
theorem merge_groups.l0_lim (x0 : List (S36)) (x3 : List (List (S36))) : IsLim (fun k => merge_groups.l0 k x0 x3) (merge_groups.l0L x0 x3) := isLim_lim (fun k => (merge_groups.mono_l k).1 x0 x3)
noncomputable def merge_groups.l1L (x0 : List (S36)) (x3 : List (List (S36))) (x4 : Int) : Option ((List (List (S36)))) := lim (fun k => merge_groups.l1 k x0 x3 x4)
theorem merge_groups.l1_lim (x0 : List (S36)) (x3 : List (List (S36))) (x4 : Int) : IsLim (fun k => merge_groups.l1 k x0 x3 x4) (merge_groups.l1L x0 x3 x4) := isLim_lim (fun k => (merge_groups.mono_l k).2 x0 x3 x4)
noncomputable def merge_groups.fL (l0 : List (S36)) : Option ((List (List (S36)))) := lim (fun k => merge_groups.f k l0)
theorem merge_groups.f_lim (l0 : List (S36)) : IsLim (fun k => merge_groups.f k l0) (merge_groups.fL l0) := isLim_lim (fun k => merge_groups.mono l0 k)
noncomputable def merge_Visible.l0L (x1 : Int) (x5 : List (S36)) (x10 : List (List (S36))) (x11 : Int) (x12 : Int) : Option ((List (S36))) := lim (fun k => merge_Visible.l0 k x1 x5 x10 x11 x12)
theorem merge_Visible.l0_lim (x1 : Int) (x5 : List (S36)) (x10 : List (List (S36))) (x11 : Int) (x12 : Int) : IsLim (fun k => merge_Visible.l0 k x1 x5 x10 x11 x12) (merge_Visible.l0L x1 x5 x10 x11 x12) := isLim_lim (fun k => (merge_Visible.mono_l k) x1 x5 x10 x11 x12)
noncomputable def merge_Visible.fL (l0 : List (S36)) (a1 : Int) : Option ((List (S36))) := lim (fun k => merge_Visible.f k l0 a1)
theorem merge_Visible.f_lim (l0 : List (S36)) (a1 : Int) : IsLim (fun k => merge_Visible.f k l0 a1) (merge_Visible.fL l0 a1) := isLim_lim (fun k => merge_Visible.mono l0 a1 k)
noncomputable def merge_Thin.l0L (x1 : List Int) (x2 : Bool) (x7 : List (S36)) (x17 : List (List (S36))) (x18 : Int) (x19 : Int) : Option ((List (S36))) := lim (fun k => merge_Thin.l0 k x1 x2 x7 x17 x18 x19)
theorem merge_Thin.l0_lim (x1 : List Int) (x2 : Bool) (x7 : List (S36)) (x17 : List (List (S36))) (x18 : Int) (x19 : Int) : IsLim (fun k => merge_Thin.l0 k x1 x2 x7 x17 x18 x19) (merge_Thin.l0L x1 x2 x7 x17 x18 x19) := isLim_lim (fun k => (merge_Thin.mono_l k).1 x1 x2 x7 x17 x18 x19)
noncomputable def merge_Thin.l1L (x1 : List Int) (x2 : Bool) (x7 : List (S36)) (x9 : List (S36)) (x10 : List Int) (x17 : List (List (S36))) (x18 : Int) (x19 : Int) (x24 : List Int) (x25 : Int) (x26 : Int) : Option ((List (S36))) := lim (fun k => merge_Thin.l1 k x1 x2 x7 x9 x10 x17 x18 x19 x24 x25 x26)
theorem merge_Thin.l1_lim (x1 : List Int) (x2 : Bool) (x7 : List (S36)) (x9 : List (S36)) (x10 : List Int) (x17 : List (List (S36))) (x18 : Int) (x19 : Int) (x24 : List Int) (x25 : Int) (x26 : Int) : IsLim (fun k => merge_Thin.l1 k x1 x2 x7 x9 x10 x17 x18 x19 x24 x25 x26) (merge_Thin.l1L x1 x2 x7 x9 x10 x17 x18 x19 x24 x25 x26) := isLim_lim (fun k => (merge_Thin.mono_l k).2.1 x1 x2 x7 x9 x10 x17 x18 x19 x24 x25 x26)
noncomputable def merge_Thin.j3L (x1 : List Int) (x2 : Bool) (x7 : List (S36)) (x9 : List (S36)) (x10 : List Int) (x17 : List (List (S36))) (x18 : Int) (x19 : Int) : Option ((List (S36))) := lim (fun k => merge_Thin.j3 k x1 x2 x7 x9 x10 x17 x18 x19)
theorem merge_Thin.j3_lim (x1 : List Int) (x2 : Bool) (x7 : List (S36)) (x9 : List (S36)) (x10 : List Int) (x17 : List (List (S36))) (x18 : Int) (x19 : Int) : IsLim (fun k => merge_Thin.j3 k x1 x2 x7 x9 x10 x17 x18 x19) (merge_Thin.j3L x1 x2 x7 x9 x10 x17 x18 x19) := isLim_lim (fun k => (merge_Thin.mono_l k).2.2.1 x1 x2 x7 x9 x10 x17 x18 x19)
noncomputable def merge_Thin.l3L (x1 : List Int) (x2 : Bool) (x7 : List (S36)) (x9 : List (S36)) (x17 : List (List (S36))) (x18 : Int) (x19 : Int) (x67 : List Int) (x68 : Int) (x69 : Int) : Option ((List (S36))) := lim (fun k => merge_Thin.l3 k x1 x2 x7 x9 x17 x18 x19 x67 x68 x69)
theorem merge_Thin.l3_lim (x1 : List Int) (x2 : Bool) (x7 : List (S36)) (x9 : List (S36)) (x17 : List (List (S36))) (x18 : Int) (x19 : Int) (x67 : List Int) (x68 : Int) (x69 : Int) : IsLim (fun k => merge_Thin.l3 k x1 x2 x7 x9 x17 x18 x19 x67 x68 x69) (merge_Thin.l3L x1 x2 x7 x9 x17 x18 x19 x67 x68 x69) := isLim_lim (fun k => (merge_Thin.mono_l k).2.2.2.1 x1 x2 x7 x9 x17 x18 x19 x67 x68 x69)
noncomputable def merge_Thin.l2L (x1 : List Int) (x2 : Bool) (x7 : List (S36)) (x9 : List (S36)) (x10 : List Int) (x17 : List (List (S36))) (x18 : Int) (x19 : Int) : Option ((List (S36))) := lim (fun k => merge_Thin.l2 k x1 x2 x7 x9 x10 x17 x18 x19)
theorem merge_Thin.l2_lim (x1 : List Int) (x2 : Bool) (x7 : List (S36)) (x9 : List (S36)) (x10 : List Int) (x17 : List (List (S36))) (x18 : Int) (x19 : Int) : IsLim (fun k => merge_Thin.l2 k x1 x2 x7 x9 x10 x17 x18 x19) (merge_Thin.l2L x1 x2 x7 x9 x10 x17 x18 x19) := isLim_lim (fun k => (merge_Thin.mono_l k).2.2.2.2 x1 x2 x7 x9 x10 x17 x18 x19)
noncomputable def merge_Thin.fL (l0 : List (S36)) (l1 : List Int) (a2 : Bool) : Option ((List (S36))) := lim (fun k => merge_Thin.f k l0 l1 a2)
theorem merge_Thin.f_lim (l0 : List (S36)) (l1 : List Int) (a2 : Bool) : IsLim (fun k => merge_Thin.f k l0 l1 a2) (merge_Thin.fL l0 l1 a2) := isLim_lim (fun k => merge_Thin.mono l0 l1 a2 k)
noncomputable def merge_Sorted.l0L (x0 : List (S36)) (x3 : Int) : Option (Bool) := lim (fun k => merge_Sorted.l0 k x0 x3)
theorem merge_Sorted.l0_lim (x0 : List (S36)) (x3 : Int) : IsLim (fun k => merge_Sorted.l0 k x0 x3) (merge_Sorted.l0L x0 x3) := isLim_lim (fun k => (merge_Sorted.mono_l k) x0 x3)
noncomputable def merge_Sorted.fL (l0 : List (S36)) : Option (Bool) := lim (fun k => merge_Sorted.f k l0)
theorem merge_Sorted.f_lim (l0 : List (S36)) : IsLim (fun k => merge_Sorted.f k l0) (merge_Sorted.fL l0) := isLim_lim (fun k => merge_Sorted.mono l0 k)
noncomputable def moultlaw12_shown.fL  : Option (Bool) := lim (fun k => moultlaw12_shown.f k )
theorem moultlaw12_shown.f_lim  : IsLim (fun k => moultlaw12_shown.f k ) (moultlaw12_shown.fL ) := isLim_lim (fun k => moultlaw12_shown.mono  k)
noncomputable def moultref1_Bytes.l0L (x0 : ByteArray) (x1 : ByteArray) (x5 : Int) : Option (Int) := lim (fun k => moultref1_Bytes.l0 k x0 x1 x5)
theorem moultref1_Bytes.l0_lim (x0 : ByteArray) (x1 : ByteArray) (x5 : Int) : IsLim (fun k => moultref1_Bytes.l0 k x0 x1 x5) (moultref1_Bytes.l0L x0 x1 x5) := isLim_lim (fun k => (moultref1_Bytes.mono_l k).1 x0 x1 x5)
noncomputable def moultref1_Bytes.j1L (x0 : ByteArray) (x1 : ByteArray) (x5 : Int) (x15 : Bool) : Option (Int) := lim (fun k => moultref1_Bytes.j1 k x0 x1 x5 x15)
theorem moultref1_Bytes.j1_lim (x0 : ByteArray) (x1 : ByteArray) (x5 : Int) (x15 : Bool) : IsLim (fun k => moultref1_Bytes.j1 k x0 x1 x5 x15) (moultref1_Bytes.j1L x0 x1 x5 x15) := isLim_lim (fun k => (moultref1_Bytes.mono_l k).2 x0 x1 x5 x15)
noncomputable def moultref1_Bytes.fL (a0 : ByteArray) (a1 : ByteArray) : Option (Int) := lim (fun k => moultref1_Bytes.f k a0 a1)
theorem moultref1_Bytes.f_lim (a0 : ByteArray) (a1 : ByteArray) : IsLim (fun k => moultref1_Bytes.f k a0 a1) (moultref1_Bytes.fL a0 a1) := isLim_lim (fun k => moultref1_Bytes.mono a0 a1 k)
noncomputable def moultref10_Less.fL (a0_0 : ByteArray) (a0_1 : Int) (a0_2 : Bool) (a0_3 : ByteArray) (a1_0 : ByteArray) (a1_1 : Int) (a1_2 : Bool) (a1_3 : ByteArray) : Option (Bool) := lim (fun k => moultref10_Less.f k a0_0 a0_1 a0_2 a0_3 a1_0 a1_1 a1_2 a1_3)
theorem moultref10_Less.f_lim (a0_0 : ByteArray) (a0_1 : Int) (a0_2 : Bool) (a0_3 : ByteArray) (a1_0 : ByteArray) (a1_1 : Int) (a1_2 : Bool) (a1_3 : ByteArray) : IsLim (fun k => moultref10_Less.f k a0_0 a0_1 a0_2 a0_3 a1_0 a1_1 a1_2 a1_3) (moultref10_Less.fL a0_0 a0_1 a0_2 a0_3 a1_0 a1_1 a1_2 a1_3) := isLim_lim (fun k => moultref10_Less.mono a0_0 a0_1 a0_2 a0_3 a1_0 a1_1 a1_2 a1_3 k)
noncomputable def moultref12_put.l0L (x0 : List (S36)) (x5 : Int) (x326000 : ByteArray) (x326001 : Int) (x326002 : Bool) (x326003 : ByteArray) : Option ((List (S36))) := lim (fun k => moultref12_put.l0 k x0 x5 x326000 x326001 x326002 x326003)
theorem moultref12_put.l0_lim (x0 : List (S36)) (x5 : Int) (x326000 : ByteArray) (x326001 : Int) (x326002 : Bool) (x326003 : ByteArray) : IsLim (fun k => moultref12_put.l0 k x0 x5 x326000 x326001 x326002 x326003) (moultref12_put.l0L x0 x5 x326000 x326001 x326002 x326003) := isLim_lim (fun k => (moultref12_put.mono_l k) x0 x5 x326000 x326001 x326002 x326003)
noncomputable def moultref12_put.fL (l0 : List (S36)) (a1_0 : ByteArray) (a1_1 : Int) (a1_2 : Bool) (a1_3 : ByteArray) : Option ((List (S36))) := lim (fun k => moultref12_put.f k l0 a1_0 a1_1 a1_2 a1_3)
theorem moultref12_put.f_lim (l0 : List (S36)) (a1_0 : ByteArray) (a1_1 : Int) (a1_2 : Bool) (a1_3 : ByteArray) : IsLim (fun k => moultref12_put.f k l0 a1_0 a1_1 a1_2 a1_3) (moultref12_put.fL l0 a1_0 a1_1 a1_2 a1_3) := isLim_lim (fun k => moultref12_put.mono l0 a1_0 a1_1 a1_2 a1_3 k)
noncomputable def moultref12_Merge.l0L (x0 : List (List (S36))) (x3 : List (S36)) (x4 : Int) : Option ((List (S36))) := lim (fun k => moultref12_Merge.l0 k x0 x3 x4)
theorem moultref12_Merge.l0_lim (x0 : List (List (S36))) (x3 : List (S36)) (x4 : Int) : IsLim (fun k => moultref12_Merge.l0 k x0 x3 x4) (moultref12_Merge.l0L x0 x3 x4) := isLim_lim (fun k => (moultref12_Merge.mono_l k).1 x0 x3 x4)
noncomputable def moultref12_Merge.l1L (x0 : List (List (S36))) (x3 : List (S36)) (x4 : Int) (x5 : Int) : Option ((List (S36))) := lim (fun k => moultref12_Merge.l1 k x0 x3 x4 x5)
theorem moultref12_Merge.l1_lim (x0 : List (List (S36))) (x3 : List (S36)) (x4 : Int) (x5 : Int) : IsLim (fun k => moultref12_Merge.l1 k x0 x3 x4 x5) (moultref12_Merge.l1L x0 x3 x4 x5) := isLim_lim (fun k => (moultref12_Merge.mono_l k).2 x0 x3 x4 x5)
noncomputable def moultref12_Merge.fL (l0 : List (List (S36))) : Option ((List (S36))) := lim (fun k => moultref12_Merge.f k l0)
theorem moultref12_Merge.f_lim (l0 : List (List (S36))) : IsLim (fun k => moultref12_Merge.f k l0) (moultref12_Merge.fL l0) := isLim_lim (fun k => moultref12_Merge.mono l0 k)
noncomputable def moultlaw12_small.l0L (x0 : List (S36)) (x3 : Int) : Option (Bool) := lim (fun k => moultlaw12_small.l0 k x0 x3)
theorem moultlaw12_small.l0_lim (x0 : List (S36)) (x3 : Int) : IsLim (fun k => moultlaw12_small.l0 k x0 x3) (moultlaw12_small.l0L x0 x3) := isLim_lim (fun k => (moultlaw12_small.mono_l k) x0 x3)
noncomputable def moultlaw12_small.fL (l0 : List (S36)) : Option (Bool) := lim (fun k => moultlaw12_small.f k l0)
theorem moultlaw12_small.f_lim (l0 : List (S36)) : IsLim (fun k => moultlaw12_small.f k l0) (moultlaw12_small.fL l0) := isLim_lim (fun k => moultlaw12_small.mono l0 k)
noncomputable def moultlaw12_rows.l0L (x0 : List (List (S36))) (x4 : List (List (S36))) (x5 : Int) : Option ((List (List (S36))) × Bool) := lim (fun k => moultlaw12_rows.l0 k x0 x4 x5)
theorem moultlaw12_rows.l0_lim (x0 : List (List (S36))) (x4 : List (List (S36))) (x5 : Int) : IsLim (fun k => moultlaw12_rows.l0 k x0 x4 x5) (moultlaw12_rows.l0L x0 x4 x5) := isLim_lim (fun k => (moultlaw12_rows.mono_l k) x0 x4 x5)
noncomputable def moultlaw12_rows.fL (l0 : List (List (S36))) : Option ((List (List (S36))) × Bool) := lim (fun k => moultlaw12_rows.f k l0)
theorem moultlaw12_rows.f_lim (l0 : List (List (S36))) : IsLim (fun k => moultlaw12_rows.f k l0) (moultlaw12_rows.fL l0) := isLim_lim (fun k => moultlaw12_rows.mono l0 k)
noncomputable def moultref12_newest.l0L (x0 : List (S36)) (x1 : ByteArray) (x2 : Int) (x7 : Int) (x8 : Int) : Option (Int) := lim (fun k => moultref12_newest.l0 k x0 x1 x2 x7 x8)
theorem moultref12_newest.l0_lim (x0 : List (S36)) (x1 : ByteArray) (x2 : Int) (x7 : Int) (x8 : Int) : IsLim (fun k => moultref12_newest.l0 k x0 x1 x2 x7 x8) (moultref12_newest.l0L x0 x1 x2 x7 x8) := isLim_lim (fun k => (moultref12_newest.mono_l k) x0 x1 x2 x7 x8)
noncomputable def moultref12_newest.fL (l0 : List (S36)) (a1 : ByteArray) (a2 : Int) : Option (Int) := lim (fun k => moultref12_newest.f k l0 a1 a2)
theorem moultref12_newest.f_lim (l0 : List (S36)) (a1 : ByteArray) (a2 : Int) : IsLim (fun k => moultref12_newest.f k l0 a1 a2) (moultref12_newest.fL l0 a1 a2) := isLim_lim (fun k => moultref12_newest.mono l0 a1 a2 k)

set_option maxRecDepth 10000 in
theorem cmp_Or_int.l0L_eq (x3 : Int) (x6 : List Int) (x7 : Int) (x8 : Int) : cmp_Or_int.l0L x3 x6 x7 x8 = if x8 < x7 then (if 0 ≤ x8 then (if x8 < (x6.length : Int) then (if (rd x6 x8) = x3 then (cmp_Or_int.l0L x3 x6 x7 (wrap64 (x8 + 1))) else (some (rd x6 x8))) else (none)) else (none)) else (some x3) := by
  refine (cmp_Or_int.l0_lim x3 x6 x7 x8).unique (IsLim.succ (fun k => (cmp_Or_int.mono_l k) x3 x6 x7 x8) ?_)
  simp only [cmp_Or_int.l0]
  repeat' first | with_reducible exact IsLim.const _ | with_reducible refine IsLim.ite ?_ ?_ | with_reducible refine IsLim.bind ?_ (fun _ => ?_) | exact cmp_Or_int.l0_lim _ _ _ _ | exact IsLim.const _
set_option maxRecDepth 10000 in
theorem cmp_Or_int.fL_eq (l0 : List Int) : cmp_Or_int.fL l0 = cmp_Or_int.l0L 0 l0 (l0.length : Int) 0 := by
  refine (cmp_Or_int.f_lim l0).unique ?_
  simp only [cmp_Or_int.f]
  repeat' first | with_reducible exact IsLim.const _ | with_reducible refine IsLim.ite ?_ ?_ | with_reducible refine IsLim.bind ?_ (fun _ => ?_) | exact cmp_Or_int.l0_lim _ _ _ _ | exact IsLim.const _
set_option maxRecDepth 10000 in
theorem table_order.fL_eq (a0_0 : ByteArray) (a0_1 : Int) (a0_2 : Bool) (a0_3 : ByteArray) (a1_0 : ByteArray) (a1_1 : Int) (a1_2 : Bool) (a1_3 : ByteArray) : table_order.fL a0_0 a0_1 a0_2 a0_3 a1_0 a1_1 a1_2 a1_3 = (strings_Compare.f a0_0 a1_0).bind fun t106 => ((cmp_Compare_int.f a1_1 a0_1).bind fun t107 => ((cmp_Or_int.fL (([t106, t107] : List Int))).bind fun t111 => (some t111))) := by
  refine (table_order.f_lim a0_0 a0_1 a0_2 a0_3 a1_0 a1_1 a1_2 a1_3).unique ?_
  simp only [table_order.f]
  repeat' first | with_reducible exact IsLim.const _ | with_reducible refine IsLim.ite ?_ ?_ | with_reducible refine IsLim.bind ?_ (fun _ => ?_) | exact cmp_Or_int.f_lim _ | exact IsLim.const _
set_option maxRecDepth 10000 in
theorem table_Less.fL_eq (a0_0 : ByteArray) (a0_1 : Int) (a0_2 : Bool) (a0_3 : ByteArray) (a1_0 : ByteArray) (a1_1 : Int) (a1_2 : Bool) (a1_3 : ByteArray) : table_Less.fL a0_0 a0_1 a0_2 a0_3 a1_0 a1_1 a1_2 a1_3 = (table_order.fL a0_0 a0_1 a0_2 a0_3 a1_0 a1_1 a1_2 a1_3).bind fun t114 => (some (decide (t114 < 0))) := by
  refine (table_Less.f_lim a0_0 a0_1 a0_2 a0_3 a1_0 a1_1 a1_2 a1_3).unique ?_
  simp only [table_Less.f]
  repeat' first | with_reducible exact IsLim.const _ | with_reducible refine IsLim.ite ?_ ?_ | with_reducible refine IsLim.bind ?_ (fun _ => ?_) | exact table_order.f_lim _ _ _ _ _ _ _ _ | exact IsLim.const _
set_option maxRecDepth 10000 in
theorem api_Entry_36.l0L_eq (x0 : List (S36)) (x1 : List (S36)) (x7 : List (S36)) : api_Entry_36.l0L x0 x1 x7 = if (x0.length : Int) > 0 then (api_Entry_36.j1L x0 x1 x7 (decide ((x1.length : Int) > 0))) else (api_Entry_36.j1L x0 x1 x7 false) := by
  refine (api_Entry_36.l0_lim x0 x1 x7).unique (IsLim.succ (fun k => (api_Entry_36.mono_l k).1 x0 x1 x7) ?_)
  simp only [api_Entry_36.l0]
  repeat' first | with_reducible exact IsLim.const _ | with_reducible refine IsLim.ite ?_ ?_ | with_reducible refine IsLim.bind ?_ (fun _ => ?_) | exact api_Entry_36.j1_lim _ _ _ _ | exact IsLim.const _
set_option maxRecDepth 10000 in
theorem api_Entry_36.j1L_eq (x0 : List (S36)) (x1 : List (S36)) (x7 : List (S36)) (x15 : Bool) : api_Entry_36.j1L x0 x1 x7 x15 = if x15 = true then (if 0 < (x0.length : Int) then (if 0 < (x1.length : Int) then ((table_Less.fL ((rd_T36 x0 0).f0) ((rd_T36 x0 0).f1) ((rd_T36 x0 0).f2) ((rd_T36 x0 0).f3) ((rd_T36 x1 0).f0) ((rd_T36 x1 0).f1) ((rd_T36 x1 0).f2) ((rd_T36 x1 0).f3)).bind fun t123 => (if t123 = true then (if x7.length < 2932031007402 then (if 1 ≤ (x0.length : Int) then (api_Entry_36.l0L (x0.drop 1) x1 (x7 ++ [(⟨(rd_T36 x0 0).f0, (rd_T36 x0 0).f1, (rd_T36 x0 0).f2, (rd_T36 x0 0).f3⟩ : S36)])) else (none)) else (none)) else ((table_Less.fL ((rd_T36 x1 0).f0) ((rd_T36 x1 0).f1) ((rd_T36 x1 0).f2) ((rd_T36 x1 0).f3) ((rd_T36 x0 0).f0) ((rd_T36 x0 0).f1) ((rd_T36 x0 0).f2) ((rd_T36 x0 0).f3)).bind fun t135 => (if t135 = true then (if x7.length < 2932031007402 then (if 1 ≤ (x1.length : Int) then (api_Entry_36.l0L x0 (x1.drop 1) (x7 ++ [(⟨(rd_T36 x1 0).f0, (rd_T36 x1 0).f1, (rd_T36 x1 0).f2, (rd_T36 x1 0).f3⟩ : S36)])) else (none)) else (none)) else (if 1 ≤ (x1.length : Int) then (api_Entry_36.l0L x0 (x1.drop 1) x7) else (none)))))) else (none)) else (none)) else (if x7.length + x0.length < 2932031007402 then ((some (x7 ++ x0 : List (S36))).bind fun y115 => (if y115.length + x1.length < 2932031007402 then (some (y115 ++ x1)) else (none))) else (none)) := by
  refine (api_Entry_36.j1_lim x0 x1 x7 x15).unique (IsLim.succ (fun k => (api_Entry_36.mono_l k).2 x0 x1 x7 x15) ?_)
  simp only [api_Entry_36.j1]
  repeat' first | with_reducible exact IsLim.const _ | with_reducible refine IsLim.ite ?_ ?_ | with_reducible refine IsLim.bind ?_ (fun _ => ?_) | exact table_Less.f_lim _ _ _ _ _ _ _ _ | exact api_Entry_36.l0_lim _ _ _ | exact IsLim.const _
set_option maxRecDepth 10000 in
theorem api_Entry_36.fL_eq (l0 : List (S36)) (l1 : List (S36)) (a2 : Unit) : api_Entry_36.fL l0 l1 a2 = api_Entry_36.l0L l0 l1 ([] : List (S36)) := by
  refine (api_Entry_36.f_lim l0 l1 a2).unique ?_
  simp only [api_Entry_36.f]
  repeat' first | with_reducible exact IsLim.const _ | with_reducible refine IsLim.ite ?_ ?_ | with_reducible refine IsLim.bind ?_ (fun _ => ?_) | exact api_Entry_36.l0_lim _ _ _ | exact IsLim.const _
set_option maxRecDepth 10000 in
theorem api_Entry_25.fL_eq (l0 : List (List (S36))) (a1 : Unit) : api_Entry_25.fL l0 a1 = if (l0.length : Int) = 0 then (some ([] : List (S36))) else (if (l0.length : Int) = 1 then (if 0 < (l0.length : Int) then ((slices_Clone_Entry.f (rd_L4 l0 0)).bind fun t151 => (some t151)) else (none)) else (if 0 ≤ (wrap64 ((l0.length : Int) / 2)) then (if (wrap64 ((l0.length : Int) / 2)) ≤ (l0.length : Int) then ((api_Entry_25.fL (l0.take ((wrap64 ((l0.length : Int) / 2)) : Int).toNat) a1).bind fun t158 => ((api_Entry_25.fL (l0.drop ((wrap64 ((l0.length : Int) / 2)) : Int).toNat) a1).bind fun t165 => ((api_Entry_36.fL t158 t165 a1).bind fun t168 => (some t168)))) else (none)) else (none))) := by
  refine (api_Entry_25.f_lim l0 a1).unique (IsLim.succ (fun k => (api_Entry_25.mono_l k) l0 a1) ?_)
  simp only [api_Entry_25.f]
  repeat' first | with_reducible exact IsLim.const _ | with_reducible refine IsLim.ite ?_ ?_ | with_reducible refine IsLim.bind ?_ (fun _ => ?_) | exact api_Entry_25.f_lim _ _ | exact api_Entry_36.f_lim _ _ _ | exact IsLim.const _
set_option maxRecDepth 10000 in
theorem merge_Merge.fL_eq (l0 : List (List (S36))) : merge_Merge.fL l0 = (api_Entry_25.fL l0 ()).bind fun t171 => (some t171) := by
  refine (merge_Merge.f_lim l0).unique ?_
  simp only [merge_Merge.f]
  repeat' first | with_reducible exact IsLim.const _ | with_reducible refine IsLim.ite ?_ ?_ | with_reducible refine IsLim.bind ?_ (fun _ => ?_) | exact api_Entry_25.f_lim _ _ | exact IsLim.const _
set_option maxRecDepth 10000 in
theorem moultlaw12_same.l0L_eq (x0 : List (S36)) (x1 : List (S36)) (x5 : Int) : moultlaw12_same.l0L x0 x1 x5 = if x5 < (x0.length : Int) then (if 0 ≤ x5 then (if x5 < (x1.length : Int) then (if (!((((rd_T36 x0 x5).f0).toList) == (((rd_T36 x1 x5).f0).toList)) || (!(((rd_T36 x0 x5).f1) == ((rd_T36 x1 x5).f1)) || (!(((rd_T36 x0 x5).f2) == ((rd_T36 x1 x5).f2)) || (!((((rd_T36 x0 x5).f3).toList) == (((rd_T36 x1 x5).f3).toList)))))) = true then (some false) else (moultlaw12_same.l0L x0 x1 (wrap64 (x5 + 1)))) else (none)) else (none)) else (some true) := by
  refine (moultlaw12_same.l0_lim x0 x1 x5).unique (IsLim.succ (fun k => (moultlaw12_same.mono_l k) x0 x1 x5) ?_)
  simp only [moultlaw12_same.l0]
  repeat' first | with_reducible exact IsLim.const _ | with_reducible refine IsLim.ite ?_ ?_ | with_reducible refine IsLim.bind ?_ (fun _ => ?_) | exact moultlaw12_same.l0_lim _ _ _ | exact IsLim.const _
set_option maxRecDepth 10000 in
theorem moultlaw12_same.fL_eq (l0 : List (S36)) (l1 : List (S36)) : moultlaw12_same.fL l0 l1 = if (l0.length : Int) = (l1.length : Int) then (moultlaw12_same.l0L l0 l1 0) else (some false) := by
  refine (moultlaw12_same.f_lim l0 l1).unique ?_
  simp only [moultlaw12_same.f]
  repeat' first | with_reducible exact IsLim.const _ | with_reducible refine IsLim.ite ?_ ?_ | with_reducible refine IsLim.bind ?_ (fun _ => ?_) | exact moultlaw12_same.l0_lim _ _ _ | exact IsLim.const _
set_option maxRecDepth 10000 in
theorem merge_groups.l0L_eq (x0 : List (S36)) (x3 : List (List (S36))) : merge_groups.l0L x0 x3 = if (x0.length : Int) > 0 then (merge_groups.l1L x0 x3 1) else (some x3) := by
  refine (merge_groups.l0_lim x0 x3).unique (IsLim.succ (fun k => (merge_groups.mono_l k).1 x0 x3) ?_)
  simp only [merge_groups.l0]
  repeat' first | with_reducible exact IsLim.const _ | with_reducible refine IsLim.ite ?_ ?_ | with_reducible refine IsLim.bind ?_ (fun _ => ?_) | exact merge_groups.l1_lim _ _ _ | exact IsLim.const _
set_option maxRecDepth 10000 in
theorem merge_groups.l1L_eq (x0 : List (S36)) (x3 : List (List (S36))) (x4 : Int) : merge_groups.l1L x0 x3 x4 = if x4 < (x0.length : Int) then (if 0 ≤ x4 then (if 0 < (x0.length : Int) then (if ((rd_T36 x0 x4).f0).toList = ((rd_T36 x0 0).f0).toList then (merge_groups.l1L x0 x3 (wrap64 (x4 + 1))) else (if x4 ≤ (x0.length : Int) then (if x3.length < 5864062014805 then (merge_groups.l0L (x0.drop (x4 : Int).toNat) (x3 ++ [(x0.take (x4 : Int).toNat)])) else (none)) else (none))) else (none)) else (none)) else (if 0 ≤ x4 then (if x4 ≤ (x0.length : Int) then (if x3.length < 5864062014805 then (merge_groups.l0L (x0.drop (x4 : Int).toNat) (x3 ++ [(x0.take (x4 : Int).toNat)])) else (none)) else (none)) else (none)) := by
  refine (merge_groups.l1_lim x0 x3 x4).unique (IsLim.succ (fun k => (merge_groups.mono_l k).2 x0 x3 x4) ?_)
  simp only [merge_groups.l1]
  repeat' first | with_reducible exact IsLim.const _ | with_reducible refine IsLim.ite ?_ ?_ | with_reducible refine IsLim.bind ?_ (fun _ => ?_) | exact merge_groups.l1_lim _ _ _ | exact merge_groups.l0_lim _ _ | exact IsLim.const _
set_option maxRecDepth 10000 in
theorem merge_groups.fL_eq (l0 : List (S36)) : merge_groups.fL l0 = merge_groups.l0L l0 ([] : List (List (S36))) := by
  refine (merge_groups.f_lim l0).unique ?_
  simp only [merge_groups.f]
  repeat' first | with_reducible exact IsLim.const _ | with_reducible refine IsLim.ite ?_ ?_ | with_reducible refine IsLim.bind ?_ (fun _ => ?_) | exact merge_groups.l0_lim _ _ | exact IsLim.const _
set_option maxRecDepth 10000 in
theorem merge_Visible.l0L_eq (x1 : Int) (x5 : List (S36)) (x10 : List (List (S36))) (x11 : Int) (x12 : Int) : merge_Visible.l0L x1 x5 x10 x11 x12 = if x12 < x11 then (if 0 ≤ x12 then (if x12 < (x10.length : Int) then ((merge_newest.f (rd_L4 x10 x12) x1).bind fun t208 => (if t208 ≥ 0 then (if 0 ≤ t208 then (if t208 < ((rd_L4 x10 x12).length : Int) then (if ((rd_T36 (rd_L4 x10 x12) t208).f2 = true) then (merge_Visible.l0L x1 x5 x10 x11 (wrap64 (x12 + 1))) else (if x5.length < 2932031007402 then (merge_Visible.l0L x1 (x5 ++ [(⟨(rd_T36 (rd_L4 x10 x12) t208).f0, (rd_T36 (rd_L4 x10 x12) t208).f1, (rd_T36 (rd_L4 x10 x12) t208).f2, (rd_T36 (rd_L4 x10 x12) t208).f3⟩ : S36)]) x10 x11 (wrap64 (x12 + 1))) else (none))) else (none)) else (none)) else (merge_Visible.l0L x1 x5 x10 x11 (wrap64 (x12 + 1))))) else (none)) else (none)) else (some x5) := by
  refine (merge_Visible.l0_lim x1 x5 x10 x11 x12).unique (IsLim.succ (fun k => (merge_Visible.mono_l k) x1 x5 x10 x11 x12) ?_)
  simp only [merge_Visible.l0]
  repeat' first | with_reducible exact IsLim.const _ | with_reducible refine IsLim.ite ?_ ?_ | with_reducible refine IsLim.bind ?_ (fun _ => ?_) | exact merge_Visible.l0_lim _ _ _ _ _ | exact IsLim.const _
set_option maxRecDepth 10000 in
theorem merge_Visible.fL_eq (l0 : List (S36)) (a1 : Int) : merge_Visible.fL l0 a1 = (merge_groups.fL l0).bind fun t204 => (merge_Visible.l0L a1 ([] : List (S36)) t204 (t204.length : Int) 0) := by
  refine (merge_Visible.f_lim l0 a1).unique ?_
  simp only [merge_Visible.f]
  repeat' first | with_reducible exact IsLim.const _ | with_reducible refine IsLim.ite ?_ ?_ | with_reducible refine IsLim.bind ?_ (fun _ => ?_) | exact merge_groups.f_lim _ | exact merge_Visible.l0_lim _ _ _ _ _ | exact IsLim.const _
set_option maxRecDepth 10000 in
theorem merge_Thin.l0L_eq (x1 : List Int) (x2 : Bool) (x7 : List (S36)) (x17 : List (List (S36))) (x18 : Int) (x19 : Int) : merge_Thin.l0L x1 x2 x7 x17 x18 x19 = if x19 < x18 then (if 0 ≤ x19 then (if x19 < (x17.length : Int) then (merge_Thin.l1L x1 x2 x7 (rd_L4 x17 x19) (([0] : List Int)) x17 x18 x19 x1 (x1.length : Int) 0) else (none)) else (none)) else (some x7) := by
  refine (merge_Thin.l0_lim x1 x2 x7 x17 x18 x19).unique (IsLim.succ (fun k => (merge_Thin.mono_l k).1 x1 x2 x7 x17 x18 x19) ?_)
  simp only [merge_Thin.l0]
  repeat' first | with_reducible exact IsLim.const _ | with_reducible refine IsLim.ite ?_ ?_ | with_reducible refine IsLim.bind ?_ (fun _ => ?_) | exact merge_Thin.l1_lim _ _ _ _ _ _ _ _ _ _ _ | exact IsLim.const _
set_option maxRecDepth 10000 in
theorem merge_Thin.l1L_eq (x1 : List Int) (x2 : Bool) (x7 : List (S36)) (x9 : List (S36)) (x10 : List Int) (x17 : List (List (S36))) (x18 : Int) (x19 : Int) (x24 : List Int) (x25 : Int) (x26 : Int) : merge_Thin.l1L x1 x2 x7 x9 x10 x17 x18 x19 x24 x25 x26 = if x26 < x25 then (if 0 ≤ x26 then (if x26 < (x24.length : Int) then ((merge_newest.f x9 (rd x24 x26)).bind fun t222 => (if t222 ≥ 0 then (if x10.length < 17592186044416 then (merge_Thin.l1L x1 x2 x7 x9 (x10 ++ [t222]) x17 x18 x19 x24 x25 (wrap64 (x26 + 1))) else (none)) else (merge_Thin.l1L x1 x2 x7 x9 x10 x17 x18 x19 x24 x25 (wrap64 (x26 + 1))))) else (none)) else (none)) else ((slices_Sort_int_int.f x10).bind fun t226 => ((slices_Compact_int_int.f t226).bind fun t227 => (merge_Thin.l2L x1 x2 x7 x9 t227 x17 x18 x19))) := by
  refine (merge_Thin.l1_lim x1 x2 x7 x9 x10 x17 x18 x19 x24 x25 x26).unique (IsLim.succ (fun k => (merge_Thin.mono_l k).2.1 x1 x2 x7 x9 x10 x17 x18 x19 x24 x25 x26) ?_)
  simp only [merge_Thin.l1]
  repeat' first | with_reducible exact IsLim.const _ | with_reducible refine IsLim.ite ?_ ?_ | with_reducible refine IsLim.bind ?_ (fun _ => ?_) | exact merge_Thin.l1_lim _ _ _ _ _ _ _ _ _ _ _ | exact merge_Thin.l2_lim _ _ _ _ _ _ _ _ | exact IsLim.const _
set_option maxRecDepth 10000 in
theorem merge_Thin.j3L_eq (x1 : List Int) (x2 : Bool) (x7 : List (S36)) (x9 : List (S36)) (x10 : List Int) (x17 : List (List (S36))) (x18 : Int) (x19 : Int) : merge_Thin.j3L x1 x2 x7 x9 x10 x17 x18 x19 = merge_Thin.l3L x1 x2 x7 x9 x17 x18 x19 x10 (x10.length : Int) 0 := by
  refine (merge_Thin.j3_lim x1 x2 x7 x9 x10 x17 x18 x19).unique (IsLim.succ (fun k => (merge_Thin.mono_l k).2.2.1 x1 x2 x7 x9 x10 x17 x18 x19) ?_)
  simp only [merge_Thin.j3]
  repeat' first | with_reducible exact IsLim.const _ | with_reducible refine IsLim.ite ?_ ?_ | with_reducible refine IsLim.bind ?_ (fun _ => ?_) | exact merge_Thin.l3_lim _ _ _ _ _ _ _ _ _ _ | exact IsLim.const _
set_option maxRecDepth 10000 in
theorem merge_Thin.l3L_eq (x1 : List Int) (x2 : Bool) (x7 : List (S36)) (x9 : List (S36)) (x17 : List (List (S36))) (x18 : Int) (x19 : Int) (x67 : List Int) (x68 : Int) (x69 : Int) : merge_Thin.l3L x1 x2 x7 x9 x17 x18 x19 x67 x68 x69 = if x69 < x68 then (if 0 ≤ x69 then (if x69 < (x67.length : Int) then (if 0 ≤ (rd x67 x69) then (if (rd x67 x69) < (x9.length : Int) then (if x7.length < 2932031007402 then (merge_Thin.l3L x1 x2 (x7 ++ [(⟨(rd_T36 x9 (rd x67 x69)).f0, (rd_T36 x9 (rd x67 x69)).f1, (rd_T36 x9 (rd x67 x69)).f2, (rd_T36 x9 (rd x67 x69)).f3⟩ : S36)]) x9 x17 x18 x19 x67 x68 (wrap64 (x69 + 1))) else (none)) else (none)) else (none)) else (none)) else (none)) else (merge_Thin.l0L x1 x2 x7 x17 x18 (wrap64 (x19 + 1))) := by
  refine (merge_Thin.l3_lim x1 x2 x7 x9 x17 x18 x19 x67 x68 x69).unique (IsLim.succ (fun k => (merge_Thin.mono_l k).2.2.2.1 x1 x2 x7 x9 x17 x18 x19 x67 x68 x69) ?_)
  simp only [merge_Thin.l3]
  repeat' first | with_reducible exact IsLim.const _ | with_reducible refine IsLim.ite ?_ ?_ | with_reducible refine IsLim.bind ?_ (fun _ => ?_) | exact merge_Thin.l3_lim _ _ _ _ _ _ _ _ _ _ | exact merge_Thin.l0_lim _ _ _ _ _ _ | exact IsLim.const _
set_option maxRecDepth 10000 in
theorem merge_Thin.l2L_eq (x1 : List Int) (x2 : Bool) (x7 : List (S36)) (x9 : List (S36)) (x10 : List Int) (x17 : List (List (S36))) (x18 : Int) (x19 : Int) : merge_Thin.l2L x1 x2 x7 x9 x10 x17 x18 x19 = if x2 = true then (if (x10.length : Int) > 0 then (if 0 ≤ (wrap64 ((x10.length : Int) - 1)) then (if (wrap64 ((x10.length : Int) - 1)) < (x10.length : Int) then (if 0 ≤ (rd x10 (wrap64 ((x10.length : Int) - 1))) then (if (rd x10 (wrap64 ((x10.length : Int) - 1))) < (x9.length : Int) then (if (rd_T36 x9 (rd x10 (wrap64 ((x10.length : Int) - 1)))).f2 = true then (if (wrap64 ((x10.length : Int) - 1)) ≤ (x10.length : Int) then (merge_Thin.l2L x1 x2 x7 x9 (x10.take ((wrap64 ((x10.length : Int) - 1)) : Int).toNat) x17 x18 x19) else (none)) else (merge_Thin.j3L x1 x2 x7 x9 x10 x17 x18 x19)) else (none)) else (none)) else (none)) else (none)) else (merge_Thin.j3L x1 x2 x7 x9 x10 x17 x18 x19)) else (merge_Thin.j3L x1 x2 x7 x9 x10 x17 x18 x19) := by
  refine (merge_Thin.l2_lim x1 x2 x7 x9 x10 x17 x18 x19).unique (IsLim.succ (fun k => (merge_Thin.mono_l k).2.2.2.2 x1 x2 x7 x9 x10 x17 x18 x19) ?_)
  simp only [merge_Thin.l2]
  repeat' first | with_reducible exact IsLim.const _ | with_reducible refine IsLim.ite ?_ ?_ | with_reducible refine IsLim.bind ?_ (fun _ => ?_) | exact merge_Thin.l2_lim _ _ _ _ _ _ _ _ | exact merge_Thin.j3_lim _ _ _ _ _ _ _ _ | exact IsLim.const _
set_option maxRecDepth 10000 in
theorem merge_Thin.fL_eq (l0 : List (S36)) (l1 : List Int) (a2 : Bool) : merge_Thin.fL l0 l1 a2 = (merge_groups.fL l0).bind fun t214 => (merge_Thin.l0L l1 a2 ([] : List (S36)) t214 (t214.length : Int) 0) := by
  refine (merge_Thin.f_lim l0 l1 a2).unique ?_
  simp only [merge_Thin.f]
  repeat' first | with_reducible exact IsLim.const _ | with_reducible refine IsLim.ite ?_ ?_ | with_reducible refine IsLim.bind ?_ (fun _ => ?_) | exact merge_groups.f_lim _ | exact merge_Thin.l0_lim _ _ _ _ _ _ | exact IsLim.const _
set_option maxRecDepth 10000 in
theorem merge_Sorted.l0L_eq (x0 : List (S36)) (x3 : Int) : merge_Sorted.l0L x0 x3 = if x3 < (x0.length : Int) then (if 0 ≤ (wrap64 (x3 - 1)) then (if (wrap64 (x3 - 1)) < (x0.length : Int) then (if 0 ≤ x3 then ((table_Less.fL ((rd_T36 x0 (wrap64 (x3 - 1))).f0) ((rd_T36 x0 (wrap64 (x3 - 1))).f1) ((rd_T36 x0 (wrap64 (x3 - 1))).f2) ((rd_T36 x0 (wrap64 (x3 - 1))).f3) ((rd_T36 x0 x3).f0) ((rd_T36 x0 x3).f1) ((rd_T36 x0 x3).f2) ((rd_T36 x0 x3).f3)).bind fun t242 => (if t242 = true then (merge_Sorted.l0L x0 (wrap64 (x3 + 1))) else (some false))) else (none)) else (none)) else (none)) else (some true) := by
  refine (merge_Sorted.l0_lim x0 x3).unique (IsLim.succ (fun k => (merge_Sorted.mono_l k) x0 x3) ?_)
  simp only [merge_Sorted.l0]
  repeat' first | with_reducible exact IsLim.const _ | with_reducible refine IsLim.ite ?_ ?_ | with_reducible refine IsLim.bind ?_ (fun _ => ?_) | exact table_Less.f_lim _ _ _ _ _ _ _ _ | exact merge_Sorted.l0_lim _ _ | exact IsLim.const _
set_option maxRecDepth 10000 in
theorem merge_Sorted.fL_eq (l0 : List (S36)) : merge_Sorted.fL l0 = merge_Sorted.l0L l0 1 := by
  refine (merge_Sorted.f_lim l0).unique ?_
  simp only [merge_Sorted.f]
  repeat' first | with_reducible exact IsLim.const _ | with_reducible refine IsLim.ite ?_ ?_ | with_reducible refine IsLim.bind ?_ (fun _ => ?_) | exact merge_Sorted.l0_lim _ _ | exact IsLim.const _
set_option maxRecDepth 10000 in
theorem moultlaw12_shown.fL_eq  : moultlaw12_shown.fL  = (moultlaw12_live.f (⟨#[97]⟩ : ByteArray) 3).bind fun bt244 => ((moultlaw12_live.f (⟨#[98]⟩ : ByteArray) 4).bind fun bt248 => ((some (([(⟨(⟨#[97]⟩ : ByteArray), 5, true, (⟨#[]⟩ : ByteArray)⟩ : S36), (⟨bt244.1, bt244.2.1, bt244.2.2.1, bt244.2.2.2⟩ : S36), (⟨bt248.1, bt248.2.1, bt248.2.2.1, bt248.2.2.2⟩ : S36)] : List (S36)) : List (S36))).bind fun y252 => ((merge_Visible.fL y252 9).bind fun t255 => (if 2 ≤ (y252.length : Int) then ((moultlaw12_same.fL t255 (y252.drop 2)).bind fun t263 => (if t263 = true then ((merge_Visible.fL y252 4).bind fun t264 => (if 1 ≤ (y252.length : Int) then ((moultlaw12_same.fL t264 (y252.drop 1)).bind fun t272 => (if t272 = true then ((merge_Merge.fL (([(y252.drop 2), (y252.take 2)] : List (List (S36))))).bind fun t286 => ((moultlaw12_same.fL t286 y252).bind fun t289 => ((merge_Thin.fL y252 ([] : List Int) false).bind fun t290 => (if 0 < (y252.length : Int) then (if 2 < (y252.length : Int) then ((moultlaw12_same.fL t290 (([(⟨(rd_T36 y252 0).f0, (rd_T36 y252 0).f1, (rd_T36 y252 0).f2, (rd_T36 y252 0).f3⟩ : S36), (⟨(rd_T36 y252 2).f0, (rd_T36 y252 2).f1, (rd_T36 y252 2).f2, (rd_T36 y252 2).f3⟩ : S36)] : List (S36)))).bind fun t298 => (if t298 = true then ((merge_Thin.fL y252 (([4] : List Int)) false).bind fun t302 => ((moultlaw12_same.fL t302 y252).bind fun t305 => (if t305 = true then ((merge_Thin.fL y252 ([] : List Int) true).bind fun t306 => ((moultlaw12_same.fL t306 (y252.drop 2)).bind fun t314 => (if t289 = true then (if t314 = true then ((merge_Sorted.fL y252).bind fun t315 => (if t315 = true then ((merge_Sorted.fL (([(⟨(rd_T36 y252 2).f0, (rd_T36 y252 2).f1, (rd_T36 y252 2).f2, (rd_T36 y252 2).f3⟩ : S36), (⟨(rd_T36 y252 0).f0, (rd_T36 y252 0).f1, (rd_T36 y252 0).f2, (rd_T36 y252 0).f3⟩ : S36)] : List (S36)))).bind fun t321 => (some (!t321))) else (none))) else (none)) else (none)))) else (none)))) else (none))) else (none)) else (none))))) else (none))) else (none))) else (none))) else (none))))) := by
  refine (moultlaw12_shown.f_lim ).unique ?_
  simp only [moultlaw12_shown.f]
  repeat' first | with_reducible exact IsLim.const _ | with_reducible refine IsLim.ite ?_ ?_ | with_reducible refine IsLim.bind ?_ (fun _ => ?_) | exact merge_Visible.f_lim _ _ | exact moultlaw12_same.f_lim _ _ | exact merge_Merge.f_lim _ | exact merge_Thin.f_lim _ _ _ | exact merge_Sorted.f_lim _ | exact IsLim.const _
set_option maxRecDepth 10000 in
theorem moultref1_Bytes.l0L_eq (x0 : ByteArray) (x1 : ByteArray) (x5 : Int) : moultref1_Bytes.l0L x0 x1 x5 = if x5 < (x0.size : Int) then (moultref1_Bytes.j1L x0 x1 x5 (decide (x5 < (x1.size : Int)))) else (moultref1_Bytes.j1L x0 x1 x5 false) := by
  refine (moultref1_Bytes.l0_lim x0 x1 x5).unique (IsLim.succ (fun k => (moultref1_Bytes.mono_l k).1 x0 x1 x5) ?_)
  simp only [moultref1_Bytes.l0]
  repeat' first | with_reducible exact IsLim.const _ | with_reducible refine IsLim.ite ?_ ?_ | with_reducible refine IsLim.bind ?_ (fun _ => ?_) | exact moultref1_Bytes.j1_lim _ _ _ _ | exact IsLim.const _
set_option maxRecDepth 10000 in
theorem moultref1_Bytes.j1L_eq (x0 : ByteArray) (x1 : ByteArray) (x5 : Int) (x15 : Bool) : moultref1_Bytes.j1L x0 x1 x5 x15 = if x15 = true then (if 0 ≤ x5 then (if x5 < (x0.size : Int) then (if x5 < (x1.size : Int) then (if (bt x0 x5) < (bt x1 x5) then (some (-1)) else (if (bt x0 x5) > (bt x1 x5) then (some 1) else (moultref1_Bytes.l0L x0 x1 (wrap64 (x5 + 1))))) else (none)) else (none)) else (none)) else (if (x0.size : Int) < (x1.size : Int) then (some (-1)) else (if (x0.size : Int) > (x1.size : Int) then (some 1) else (some 0))) := by
  refine (moultref1_Bytes.j1_lim x0 x1 x5 x15).unique (IsLim.succ (fun k => (moultref1_Bytes.mono_l k).2 x0 x1 x5 x15) ?_)
  simp only [moultref1_Bytes.j1]
  repeat' first | with_reducible exact IsLim.const _ | with_reducible refine IsLim.ite ?_ ?_ | with_reducible refine IsLim.bind ?_ (fun _ => ?_) | exact moultref1_Bytes.l0_lim _ _ _ | exact IsLim.const _
set_option maxRecDepth 10000 in
theorem moultref1_Bytes.fL_eq (a0 : ByteArray) (a1 : ByteArray) : moultref1_Bytes.fL a0 a1 = moultref1_Bytes.l0L a0 a1 0 := by
  refine (moultref1_Bytes.f_lim a0 a1).unique ?_
  simp only [moultref1_Bytes.f]
  repeat' first | with_reducible exact IsLim.const _ | with_reducible refine IsLim.ite ?_ ?_ | with_reducible refine IsLim.bind ?_ (fun _ => ?_) | exact moultref1_Bytes.l0_lim _ _ _ | exact IsLim.const _
set_option maxRecDepth 10000 in
theorem moultref10_Less.fL_eq (a0_0 : ByteArray) (a0_1 : Int) (a0_2 : Bool) (a0_3 : ByteArray) (a1_0 : ByteArray) (a1_1 : Int) (a1_2 : Bool) (a1_3 : ByteArray) : moultref10_Less.fL a0_0 a0_1 a0_2 a0_3 a1_0 a1_1 a1_2 a1_3 = (moultref1_Bytes.fL a0_0 a1_0).bind fun t324 => (if t324 < 0 then (some true) else (if t324 = 0 then (some (decide (a0_1 > a1_1))) else (some false))) := by
  refine (moultref10_Less.f_lim a0_0 a0_1 a0_2 a0_3 a1_0 a1_1 a1_2 a1_3).unique ?_
  simp only [moultref10_Less.f]
  repeat' first | with_reducible exact IsLim.const _ | with_reducible refine IsLim.ite ?_ ?_ | with_reducible refine IsLim.bind ?_ (fun _ => ?_) | exact moultref1_Bytes.f_lim _ _ | exact IsLim.const _
set_option maxRecDepth 10000 in
theorem moultref12_put.l0L_eq (x0 : List (S36)) (x5 : Int) (x326000 : ByteArray) (x326001 : Int) (x326002 : Bool) (x326003 : ByteArray) : moultref12_put.l0L x0 x5 x326000 x326001 x326002 x326003 = if x5 < (x0.length : Int) then (if 0 ≤ x5 then ((moultref10_Less.fL ((rd_T36 x0 x5).f0) ((rd_T36 x0 x5).f1) ((rd_T36 x0 x5).f2) ((rd_T36 x0 x5).f3) x326000 x326001 x326002 x326003).bind fun t327 => (if t327 = true then (moultref12_put.l0L x0 (wrap64 (x5 + 1)) x326000 x326001 x326002 x326003) else ((moultref10_Less.fL x326000 x326001 x326002 x326003 ((rd_T36 x0 x5).f0) ((rd_T36 x0 x5).f1) ((rd_T36 x0 x5).f2) ((rd_T36 x0 x5).f3)).bind fun t329 => (if t329 = true then ((some (([] : List (S36)) : List (S36))).bind fun y330 => (if x5 ≤ (x0.length : Int) then ((some (x0.take (x5 : Int).toNat : List (S36))).bind fun y333 => (if y330.length + y333.length < 2932031007402 then ((some (y330 ++ y333 : List (S36))).bind fun y338 => ((some (([(⟨x326000, x326001, x326002, x326003⟩ : S36)] : List (S36)) : List (S36))).bind fun y341 => (if y338.length + y341.length < 2932031007402 then ((some (y338 ++ y341 : List (S36))).bind fun y344 => ((some (x0.drop (x5 : Int).toNat : List (S36))).bind fun y347 => (if y344.length + y347.length < 2932031007402 then (some (y344 ++ y347)) else (none)))) else (none)))) else (none))) else (none))) else (some x0))))) else (none)) else ((some (([] : List (S36)) : List (S36))).bind fun y355 => (if 0 ≤ x5 then (if x5 ≤ (x0.length : Int) then ((some (x0.take (x5 : Int).toNat : List (S36))).bind fun y358 => (if y355.length + y358.length < 2932031007402 then ((some (y355 ++ y358 : List (S36))).bind fun y363 => ((some (([(⟨x326000, x326001, x326002, x326003⟩ : S36)] : List (S36)) : List (S36))).bind fun y366 => (if y363.length + y366.length < 2932031007402 then ((some (y363 ++ y366 : List (S36))).bind fun y369 => ((some (x0.drop (x5 : Int).toNat : List (S36))).bind fun y372 => (if y369.length + y372.length < 2932031007402 then (some (y369 ++ y372)) else (none)))) else (none)))) else (none))) else (none)) else (none))) := by
  refine (moultref12_put.l0_lim x0 x5 x326000 x326001 x326002 x326003).unique (IsLim.succ (fun k => (moultref12_put.mono_l k) x0 x5 x326000 x326001 x326002 x326003) ?_)
  simp only [moultref12_put.l0]
  repeat' first | with_reducible exact IsLim.const _ | with_reducible refine IsLim.ite ?_ ?_ | with_reducible refine IsLim.bind ?_ (fun _ => ?_) | exact moultref10_Less.f_lim _ _ _ _ _ _ _ _ | exact moultref12_put.l0_lim _ _ _ _ _ _ | exact IsLim.const _
set_option maxRecDepth 10000 in
theorem moultref12_put.fL_eq (l0 : List (S36)) (a1_0 : ByteArray) (a1_1 : Int) (a1_2 : Bool) (a1_3 : ByteArray) : moultref12_put.fL l0 a1_0 a1_1 a1_2 a1_3 = moultref12_put.l0L l0 0 a1_0 a1_1 a1_2 a1_3 := by
  refine (moultref12_put.f_lim l0 a1_0 a1_1 a1_2 a1_3).unique ?_
  simp only [moultref12_put.f]
  repeat' first | with_reducible exact IsLim.const _ | with_reducible refine IsLim.ite ?_ ?_ | with_reducible refine IsLim.bind ?_ (fun _ => ?_) | exact moultref12_put.l0_lim _ _ _ _ _ _ | exact IsLim.const _
set_option maxRecDepth 10000 in
theorem moultref12_Merge.l0L_eq (x0 : List (List (S36))) (x3 : List (S36)) (x4 : Int) : moultref12_Merge.l0L x0 x3 x4 = if x4 < (x0.length : Int) then (moultref12_Merge.l1L x0 x3 x4 0) else (some x3) := by
  refine (moultref12_Merge.l0_lim x0 x3 x4).unique (IsLim.succ (fun k => (moultref12_Merge.mono_l k).1 x0 x3 x4) ?_)
  simp only [moultref12_Merge.l0]
  repeat' first | with_reducible exact IsLim.const _ | with_reducible refine IsLim.ite ?_ ?_ | with_reducible refine IsLim.bind ?_ (fun _ => ?_) | exact moultref12_Merge.l1_lim _ _ _ _ | exact IsLim.const _
set_option maxRecDepth 10000 in
theorem moultref12_Merge.l1L_eq (x0 : List (List (S36))) (x3 : List (S36)) (x4 : Int) (x5 : Int) : moultref12_Merge.l1L x0 x3 x4 x5 = if 0 ≤ x4 then (if x4 < (x0.length : Int) then (if x5 < ((rd_L4 x0 x4).length : Int) then (if 0 ≤ x5 then ((moultref12_put.fL x3 ((rd_T36 (rd_L4 x0 x4) x5).f0) ((rd_T36 (rd_L4 x0 x4) x5).f1) ((rd_T36 (rd_L4 x0 x4) x5).f2) ((rd_T36 (rd_L4 x0 x4) x5).f3)).bind fun t383 => (moultref12_Merge.l1L x0 t383 x4 (wrap64 (x5 + 1)))) else (none)) else (moultref12_Merge.l0L x0 x3 (wrap64 (x4 + 1)))) else (none)) else (none) := by
  refine (moultref12_Merge.l1_lim x0 x3 x4 x5).unique (IsLim.succ (fun k => (moultref12_Merge.mono_l k).2 x0 x3 x4 x5) ?_)
  simp only [moultref12_Merge.l1]
  repeat' first | with_reducible exact IsLim.const _ | with_reducible refine IsLim.ite ?_ ?_ | with_reducible refine IsLim.bind ?_ (fun _ => ?_) | exact moultref12_put.f_lim _ _ _ _ _ | exact moultref12_Merge.l1_lim _ _ _ _ | exact moultref12_Merge.l0_lim _ _ _ | exact IsLim.const _
set_option maxRecDepth 10000 in
theorem moultref12_Merge.fL_eq (l0 : List (List (S36))) : moultref12_Merge.fL l0 = moultref12_Merge.l0L l0 ([] : List (S36)) 0 := by
  refine (moultref12_Merge.f_lim l0).unique ?_
  simp only [moultref12_Merge.f]
  repeat' first | with_reducible exact IsLim.const _ | with_reducible refine IsLim.ite ?_ ?_ | with_reducible refine IsLim.bind ?_ (fun _ => ?_) | exact moultref12_Merge.l0_lim _ _ _ | exact IsLim.const _
set_option maxRecDepth 10000 in
theorem moultlaw12_small.l0L_eq (x0 : List (S36)) (x3 : Int) : moultlaw12_small.l0L x0 x3 = if x3 < (x0.length : Int) then (if 0 ≤ x3 then (if (((rd_T36 x0 x3).f0).size : Int) > 300 then (some false) else (if (((rd_T36 x0 x3).f3).size : Int) > 300 then (some false) else (if ((rd_T36 x0 x3).f1) > 1099511627776 then (some false) else (if ((rd_T36 x0 x3).f1) < 0 then (some false) else (moultlaw12_small.l0L x0 (wrap64 (x3 + 1))))))) else (none)) else (some true) := by
  refine (moultlaw12_small.l0_lim x0 x3).unique (IsLim.succ (fun k => (moultlaw12_small.mono_l k) x0 x3) ?_)
  simp only [moultlaw12_small.l0]
  repeat' first | with_reducible exact IsLim.const _ | with_reducible refine IsLim.ite ?_ ?_ | with_reducible refine IsLim.bind ?_ (fun _ => ?_) | exact moultlaw12_small.l0_lim _ _ | exact IsLim.const _
set_option maxRecDepth 10000 in
theorem moultlaw12_small.fL_eq (l0 : List (S36)) : moultlaw12_small.fL l0 = if (l0.length : Int) > 60 then (some false) else (moultlaw12_small.l0L l0 0) := by
  refine (moultlaw12_small.f_lim l0).unique ?_
  simp only [moultlaw12_small.f]
  repeat' first | with_reducible exact IsLim.const _ | with_reducible refine IsLim.ite ?_ ?_ | with_reducible refine IsLim.bind ?_ (fun _ => ?_) | exact moultlaw12_small.l0_lim _ _ | exact IsLim.const _
set_option maxRecDepth 10000 in
theorem moultlaw12_rows.l0L_eq (x0 : List (List (S36))) (x4 : List (List (S36))) (x5 : Int) : moultlaw12_rows.l0L x0 x4 x5 = if x5 < (x0.length : Int) then (if 0 ≤ x5 then ((moultlaw12_small.fL (rd_L4 x0 x5)).bind fun t391 => (if t391 = true then ((moultref12_Merge.fL (([rd_L4 x0 x5] : List (List (S36))))).bind fun t396 => (if x4.length < 5864062014805 then (moultlaw12_rows.l0L x0 (x4 ++ [t396]) (wrap64 (x5 + 1))) else (none))) else (some (([] : List (List (S36))), false)))) else (none)) else (some (x4, true)) := by
  refine (moultlaw12_rows.l0_lim x0 x4 x5).unique (IsLim.succ (fun k => (moultlaw12_rows.mono_l k) x0 x4 x5) ?_)
  simp only [moultlaw12_rows.l0]
  repeat' first | with_reducible exact IsLim.const _ | with_reducible refine IsLim.ite ?_ ?_ | with_reducible refine IsLim.bind ?_ (fun _ => ?_) | exact moultlaw12_small.f_lim _ | exact moultref12_Merge.f_lim _ | exact moultlaw12_rows.l0_lim _ _ _ | exact IsLim.const _
set_option maxRecDepth 10000 in
theorem moultlaw12_rows.fL_eq (l0 : List (List (S36))) : moultlaw12_rows.fL l0 = if (l0.length : Int) > 8 then (some (([] : List (List (S36))), false)) else (moultlaw12_rows.l0L l0 ([] : List (List (S36))) 0) := by
  refine (moultlaw12_rows.f_lim l0).unique ?_
  simp only [moultlaw12_rows.f]
  repeat' first | with_reducible exact IsLim.const _ | with_reducible refine IsLim.ite ?_ ?_ | with_reducible refine IsLim.bind ?_ (fun _ => ?_) | exact moultlaw12_rows.l0_lim _ _ _ | exact IsLim.const _
set_option maxRecDepth 10000 in
theorem moultref12_newest.l0L_eq (x0 : List (S36)) (x1 : ByteArray) (x2 : Int) (x7 : Int) (x8 : Int) : moultref12_newest.l0L x0 x1 x2 x7 x8 = if x8 < (x0.length : Int) then (if 0 ≤ x8 then (if ((rd_T36 x0 x8).f0).toList = x1.toList then (if ((rd_T36 x0 x8).f1) ≤ x2 then (if x7 < 0 then (moultref12_newest.l0L x0 x1 x2 x8 (wrap64 (x8 + 1))) else (if 0 ≤ x7 then (if x7 < (x0.length : Int) then (if ((rd_T36 x0 x8).f1) > ((rd_T36 x0 x7).f1) then (moultref12_newest.l0L x0 x1 x2 x8 (wrap64 (x8 + 1))) else (moultref12_newest.l0L x0 x1 x2 x7 (wrap64 (x8 + 1)))) else (none)) else (none))) else (moultref12_newest.l0L x0 x1 x2 x7 (wrap64 (x8 + 1)))) else (moultref12_newest.l0L x0 x1 x2 x7 (wrap64 (x8 + 1)))) else (none)) else (some x7) := by
  refine (moultref12_newest.l0_lim x0 x1 x2 x7 x8).unique (IsLim.succ (fun k => (moultref12_newest.mono_l k) x0 x1 x2 x7 x8) ?_)
  simp only [moultref12_newest.l0]
  repeat' first | with_reducible exact IsLim.const _ | with_reducible refine IsLim.ite ?_ ?_ | with_reducible refine IsLim.bind ?_ (fun _ => ?_) | exact moultref12_newest.l0_lim _ _ _ _ _ | exact IsLim.const _
set_option maxRecDepth 10000 in
theorem moultref12_newest.fL_eq (l0 : List (S36)) (a1 : ByteArray) (a2 : Int) : moultref12_newest.fL l0 a1 a2 = moultref12_newest.l0L l0 a1 a2 (-1) 0 := by
  refine (moultref12_newest.f_lim l0 a1 a2).unique ?_
  simp only [moultref12_newest.f]
  repeat' first | with_reducible exact IsLim.const _ | with_reducible refine IsLim.ite ?_ ?_ | with_reducible refine IsLim.bind ?_ (fun _ => ?_) | exact moultref12_newest.l0_lim _ _ _ _ _ | exact IsLim.const _
end Go.Proofs.Ythdoanbadhfhjaa.PAll
