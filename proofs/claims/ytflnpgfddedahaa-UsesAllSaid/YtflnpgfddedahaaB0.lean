/- abi.NoEscape at this program: the pointer as it is. -/
import Derived.Test.YtflnpgfddedahaaProg
import Derived.WalkKit
import Derived.Outline
import Derived.Lib.Builder
namespace Go.Proofs.Ytflnpgfddedahaa.U
open Go.RowKit
set_option linter.unusedSimpArgs false
theorem next62 : Extern.findNext Try.f62 = none := by first | rfl | kernel_rfl
theorem find62 : Extern.find Try.f62 = some Extern.AbiNoEscape.same := by first | rfl | kernel_rfl
theorem body62 : Try.f62.body = none := by first | rfl | kernel_rfl
theorem name62 : Try.f62.name = "internal/abi.NoEscape" := by first | rfl | kernel_rfl
theorem noEscape (p : Value) (W : World) : (callFunc 62 #[p]).run Try.prog W = .ok (.value p) W := by
  simp [callFunc, Try.func62, next62, find62, body62, name62, Lib.run_noEscape]
end Go.Proofs.Ytflnpgfddedahaa.U
