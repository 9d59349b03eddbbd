/- The tables of package opcode, taken out of its function Decode (none is typed here), and what all 256 opcodes are by them. -/
import Derived.Test.YtbekiknbjpdchaaW
namespace Go.Proofs.Ytbekiknbjpdchaa
open Go.RowKit
/-- all operations of a code, as they stand -/
def codeOps : Code → List Oper
  | .region _ ops _ => ops.toList
  | .seq a b => codeOps a ++ codeOps b
  | .cond _ a b => codeOps a ++ codeOps b
  | .block _ b => codeOps b
  | .loop b => codeOps b
  | .scope b => codeOps b
  | .rangeFunc _ _ a b => codeOps a ++ codeOps b
  | _ => []
def strOf : Operand → Option ByteArray
  | .const (.string s) => some s
  | _ => none
def strIn (o : Oper) : Option ByteArray :=
  match o.op with
  | .slice _ x _ _ _ => strOf x
  | .index _ x _ => strOf x
  | .call c => c.args.toList.head?.bind strOf
  | _ => none
def tablesOf (f : Func) : List ByteArray := (codeOps (f.body.getD .skip)).filterMap strIn
def tableAt (f : Func) (i : Nat) : ByteArray := (tablesOf f)[i]?.getD ByteArray.empty
theorem sizes : (tableAt Try.f8 0).size = 768 ∧ (tableAt Try.f8 1).size = 256 ∧ (tableAt Try.f8 2).size = 21 ∧ (tablesOf Try.f8).length = 4 := ⟨by kernel_rfl, by kernel_rfl, by kernel_rfl, by kernel_rfl⟩
/-- what is asked of opcode number i -/
def goodAt (N M L : List UInt8) (i : Nat) : Bool :=
  let m := Lib.indexByte L (M.getD i 0)
  let n := [N.getD (3 * i) 0, N.getD (3 * i + 1) 0, N.getD (3 * i + 2) 0]
  decide (0 ≤ m) && decide (m ≤ 20) && (decide (m ≠ 2) || decide (us n m = 1))
theorem all_good : (List.range 256).all (goodAt (tableAt Try.f8 0).data.toList (tableAt Try.f8 1).data.toList (tableAt Try.f8 2).data.toList) = true := by decide +kernel
end Go.Proofs.Ytbekiknbjpdchaa
