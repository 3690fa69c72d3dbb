/- The fixed example with which each of these statements begins. -/
import Derived.Test.YtdnpmfjfgamaeaaGreatAmRun
import Derived.Test.YtdnpmfjfgamaeaaGreatTy
import Derived.Test.YtdnpmfjfgamaeaaGreatAmTac
set_option linter.unusedVariables false
set_option linter.unusedSimpArgs false
set_option linter.unusedSectionVars false
namespace Go.Proofs.YtdnpmfjfgamaeaaGreat
open Go.AM
set_option maxHeartbeats 2000000
set_option maxRecDepth 100000

def ext (f : FuncId) (args : List PV) : Option PV := if f = 200 then (match args with | [.sc (.string s), .sc (.int .u8 c)] => some (.sc (.int .i64 (firstIdx s c.toNat.toUInt8))) | _ => none) else none
theorem ixb_ok : (Tryz.f200.name == "runtime.NumGoroutine") = false ∧ Tryz.f200.body.isNone = true ∧ Extern.findNext Tryz.f200 = none ∧ Extern.find Tryz.f200 = some Extern.BytealgIndexByte.indexByte :=
  ⟨by kernel_rfl, by kernel_rfl, by kernel_rfl, by kernel_rfl⟩
theorem ext_ok : ExtOk Tryz.prog ext := by
  intro f args r h hr
  unfold ext at hr
  split at hr
  · rename_i hf
    subst hf
    split at hr
    · simp only [Option.some.injEq] at hr
      subst hr
      exact pcall_indexByte Tryz.func200 ixb_ok.1 ixb_ok.2.1 ixb_ok.2.2.1 ixb_ok.2.2.2 _ _ _
    · simp at hr
  · simp at hr
end Go.Proofs.YtdnpmfjfgamaeaaGreat
