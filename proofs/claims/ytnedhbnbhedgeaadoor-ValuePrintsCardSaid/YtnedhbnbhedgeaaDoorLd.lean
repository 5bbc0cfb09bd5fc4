/- What the cell 'laid' of the rows gives the walks (Laid), and a world that is laid so. -/
import Derived.Test.YtnedhbnbhedgeaaDoorRd
import Derived.Test.YtnedhbnbhedgeaaDoorRows
import Derived.Lib.LaidTab
import Derived.Stop.LaidErr
import Derived.LaidLaws
import Derived.Handed
set_option linter.unusedVariables false
namespace Go.Proofs.YtnedhbnbhedgeaaDoor
open Go.RowKit
abbrev laidL : List (String × DataW Unit) := [("math/bits.deBruijn32tab", Rows.laid_math_bits_deBruijn32tab), ("math/bits.deBruijn64tab", Rows.laid_math_bits_deBruijn64tab), ("internal/strconv.uint64pow10", Rows.laid_internal_strconv_uint64pow10), ("strconv.ErrRange", Rows.laid_strconv_ErrRange), ("strconv.ErrSyntax", Rows.laid_strconv_ErrSyntax)]
theorem ld_star : "*" ++ "errors.errorString" = "*errors.errorString" := by decide
theorem ld_row98 (u : TypeId) (h : Tryd.prog.typeName? 3 u = some "*errors.errorString") : u = 98 :=
  typeName_ptr_named (nm := "errors.errorString") (by rw [ld_star]; kernel_rfl) (by kernel_rfl) (by decide) u (by rw [ld_star]; exact h)
theorem ld_cells100 : Tryd.prog.cellsOf 100 = 1 := by kernel_rfl
theorem ld_cells9 : Tryd.prog.cellsOf 9 = 1 := by kernel_rfl
theorem ld_cells71 : Tryd.prog.cellsOf 71 = 1 := by kernel_rfl
theorem ld_cells87 : Tryd.prog.cellsOf 87 = 20 := by kernel_rfl
theorem ld_g1 : Tryd.prog.globalNamed "internal/strconv.uint64pow10" = some 1 := by kernel_rfl
theorem ld_g2 : Tryd.prog.globalNamed "strconv.ErrSyntax" = some 2 := by kernel_rfl
theorem ld_g3 : Tryd.prog.globalNamed "strconv.ErrRange" = some 3 := by kernel_rfl
theorem laid_of {W : World} (h : laidMet Tryd.prog laidL W) : Laid W := by
  have h3 := h.tail.tail
  have hT : Lib.TabIs Tryd.prog W "internal/strconv.uint64pow10" .u64 Lib.pow10Tab :=
    Lib.tabIs_of_head (k := .u64) (zs := Lib.pow10Tab) ld_g1 (by kernel_rfl) Tryd.underlying87 Tryd.underlying71 ld_cells71 ld_cells87 h3
  obtain ⟨a0, s0, hv0, -, -, -⟩ := laid_sentinel h3.tail ld_g3 (by kernel_rfl) Tryd.underlying56 ld_row98 Tryd.underlying98 Tryd.underlying100 rfl rfl Tryd.underlying9 ld_cells100 ld_cells9
  obtain ⟨a1, s1, hv1, -, -, -⟩ := laid_sentinel h3.tail.tail ld_g2 (by kernel_rfl) Tryd.underlying56 ld_row98 Tryd.underlying98 Tryd.underlying100 rfl rfl Tryd.underlying9 ld_cells100 ld_cells9
  exact ⟨hT, ⟨_, _, hv1⟩, ⟨_, _, hv0⟩⟩
/-! One start that fits. -/
abbrev ldSyn : ByteArray := ⟨#[105, 110, 118, 97, 108, 105, 100, 32, 115, 121, 110, 116, 97, 120]⟩
abbrev ldRng : ByteArray := ⟨#[118, 97, 108, 117, 101, 32, 111, 117, 116, 32, 111, 102, 32, 114, 97, 110, 103, 101]⟩
def ldCells : DataW Unit → Array Value
  | .agg l => (l.map fun | .lit (.int k z) => Value.int k z | _ => .nilIface).toArray
  | _ => #[]
def ldPut (cs : Array Value) : Obj → Obj
  | .cells _ t frozen => .cells cs t frozen
  | o => o
noncomputable def ldLow : Nat := (World.holding Tryd.prog default ⟨#[], #[], []⟩).heap.size
noncomputable def laidWorld (os : Os) : World :=
  let w0 := World.holding Tryd.prog os ⟨#[.cells #[.string ldSyn] 100, .cells #[.string ldRng] 100], #[], []⟩
  { w0 with heap := ((((w0.heap.modify 1 (ldPut (ldCells Rows.laid_internal_strconv_uint64pow10))).modify 2 (ldPut #[.iface 98 (.pointer (some ⟨ldLow, 0, none⟩))])).modify 3 (ldPut #[.iface 98 (.pointer (some ⟨ldLow + 1, 0, none⟩))])).modify 4 (ldPut (ldCells Rows.laid_math_bits_deBruijn32tab))).modify 5 (ldPut (ldCells Rows.laid_math_bits_deBruijn64tab)) }
theorem laidWorld_met (os : Os) (args : Array Value) : laidMet Tryd.prog laidL ((laidWorld os).forCall (fun _ _ => 0) ⟨#[], args, []⟩).memory :=
  laidMet_of_run' 8 (by kernel_rfl) (by kernel_rfl)
end Go.Proofs.YtnedhbnbhedgeaaDoor
