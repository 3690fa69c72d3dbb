/- Formulas and expressions as plain data, their cells, their sizes and when two are equal. -/
import Derived.Test.YtjlkapgpjamnkaaAmTac
set_option linter.unusedVariables false
set_option linter.unusedSimpArgs false
set_option linter.unusedSectionVars false
namespace Go.AM

structure Pm where
  name : ByteArray
  type : ByteArray
inductive Ex where
  | mk (op name : ByteArray) (n : Int) (args : List ByteArray) (kids : List Ex)
inductive Fm where
  | mk (op name : ByteArray) (args : List ByteArray) (params : List Pm) (exprs : List Ex) (kids : List Fm)

abbrev sPV (s : ByteArray) : PV := .sc (.string s)
def strRows (l : List ByteArray) : List (List PV) := l.map fun s => [sPV s]
def pmRow (p : Pm) : List PV := [sPV p.name, sPV p.type]
mutual
def Ex.cells : Ex → List PV
  | .mk op name n args kids => [sPV op, sPV name, .sc (.int .i64 n), .imm 1 (strRows args), .imm 5 (Ex.rows kids)]
def Ex.rows : List Ex → List (List PV)
  | [] => []
  | k :: ks => k.cells :: Ex.rows ks
end
mutual
def Fm.cells : Fm → List PV
  | .mk op name args params exprs kids => [sPV op, sPV name, .imm 1 (strRows args), .imm 2 (params.map pmRow), .imm 5 (Ex.rows exprs), .imm 6 (Fm.rows kids)]
def Fm.rows : List Fm → List (List PV)
  | [] => []
  | k :: ks => k.cells :: Fm.rows ks
end
theorem Ex.rows_map : ∀ l : List Ex, Ex.rows l = l.map Ex.cells
  | [] => rfl
  | k :: ks => by simp [Ex.rows, Ex.rows_map ks]
theorem Fm.rows_map : ∀ l : List Fm, Fm.rows l = l.map Fm.cells
  | [] => rfl
  | k :: ks => by simp [Fm.rows, Fm.rows_map ks]
theorem Ex.cells_len (e : Ex) : e.cells.length = 5 := by cases e; rfl
theorem Fm.cells_len (f : Fm) : f.cells.length = 6 := by cases f; rfl

mutual
def Ex.size : Ex → Int
  | .mk _ _ _ _ kids => Ex.sizes 1 kids
def Ex.sizes (n : Int) : List Ex → Int
  | [] => n
  | k :: ks => Ex.sizes (IntKind.i64.wrap (n + k.size)) ks
end
mutual
def Fm.size : Fm → Int
  | .mk _ _ _ _ exprs kids => Fm.sizes (Ex.sizes 1 exprs) kids
def Fm.sizes (n : Int) : List Fm → Int
  | [] => n
  | k :: ks => Fm.sizes (IntKind.i64.wrap (n + k.size)) ks
end

def bEq (a b : ByteArray) : Bool := a.data.toList == b.data.toList
def bsEq : List ByteArray → List ByteArray → Bool
  | [], [] => true
  | a :: l, b :: m => bEq a b && bsEq l m
  | _, _ => false
def pmEq (a b : Pm) : Bool := bEq a.name b.name && bEq a.type b.type
def pmsEq : List Pm → List Pm → Bool
  | [], [] => true
  | a :: l, b :: m => pmEq a b && pmsEq l m
  | _, _ => false
mutual
def Ex.same : Ex → Ex → Bool
  | .mk op name n args kids, .mk op' name' n' args' kids' => bEq op op' && bEq name name' && n == n' && bsEq args args' && Ex.sames kids kids'
def Ex.sames : List Ex → List Ex → Bool
  | [], [] => true
  | a :: l, b :: m => a.same b && Ex.sames l m
  | _, _ => false
end
mutual
def Fm.same : Fm → Fm → Bool
  | .mk op name args params exprs kids, .mk op' name' args' params' exprs' kids' => bEq op op' && bEq name name' && bsEq args args' && pmsEq params params' && Ex.sames exprs exprs' && Fm.sames kids kids'
def Fm.sames : List Fm → List Fm → Bool
  | [], [] => true
  | a :: l, b :: m => a.same b && Fm.sames l m
  | _, _ => false
end
end Go.AM
