/- The fixed example with which each of these statements begins. -/
import Derived.Test.YtjlkapgpjamnkaaAmRun
import Derived.Test.YtjlkapgpjamnkaaTy
import Derived.Test.YtjlkapgpjamnkaaAmTac
set_option linter.unusedVariables false
set_option linter.unusedSimpArgs false
set_option linter.unusedSectionVars false
namespace Go.Proofs.Ytjlkapgpjamnkaa
open Go.AM
set_option maxHeartbeats 2000000
set_option maxRecDepth 100000

def ext (f : FuncId) (args : List PV) : Option PV := if f = 166 then (match args with | [.sc (.string s), .sc (.int .u8 c)] => some (.sc (.int .i64 (firstIdx s c.toNat.toUInt8))) | _ => none) else none
theorem ixb_ok : (Try.f166.name == "runtime.NumGoroutine") = false ∧ Try.f166.body.isNone = true ∧ Extern.findNext Try.f166 = none ∧ Extern.find Try.f166 = some Extern.BytealgIndexByte.indexByte :=
  ⟨by kernel_rfl, by kernel_rfl, by kernel_rfl, by kernel_rfl⟩
theorem ext_ok : ExtOk Try.prog ext := by
  intro f args r h hr
  unfold ext at hr
  split at hr
  · rename_i hf
    subst hf
    split at hr
    · simp only [Option.some.injEq] at hr
      subst hr
      exact pcall_indexByte Try.func166 ixb_ok.1 ixb_ok.2.1 ixb_ok.2.2.1 ixb_ok.2.2.2 _ _ _
    · simp at hr
  · simp at hr
def ownS (f t : Nat) : Bool := (f == 26 && t == 5) || (f == 42 && t == 5) || (f == 83 && t == 3) || (f == 82 && t == 3) || (f == 109 && t == 10)
theorem awake_c : PCall Try.prog 14 [] Heap.nil fun r h' => r = .sc (.bool true) ∧ h' = Heap.nil := by
  have h1 : PCall Try.prog 14 [] Heap.nil fun r _ => r = .sc (.bool true) := pcall_run (wf := fun _ => true) (own := ownS) (m := 1000) (k := 40) Ty.mixed ext_ok (by kernel_rfl)
  refine PCall.drop (h1.mono ?_)
  rintro r h' rfl
  refine ⟨.sc (.bool true), Heap.nil, ⟨rfl, rfl⟩, ?_, Nat.le_refl _, fun id o ho => by simp [Heap.nil] at ho⟩
  simp only [FrzTo]
end Go.Proofs.Ytjlkapgpjamnkaa
