/- What all 256 opcodes are by the document's tables is what they are by the program's: by the kernel. -/
import Derived.Test.YtbekiknbjpdchaaH
namespace Go.Proofs.Ytbekiknbjpdchaa
open Go.RowKit
set_option linter.unusedVariables false
theorem all_names : (List.range 256).all (fun n => decide ((nm (tableAt Try.f31) (tableAt Try.f32) (tableAt Try.f33) (tableAt Try.f20) (n / 32) (n / 4 % 8) (n % 4)).data.toList = (oS (tableAt Try.f8 0) n).data.toList)) = true := by decide +kernel
theorem all_modes : (List.range 256).all (fun n => decide (md (n / 32) (n / 4 % 8) (n % 4) (decide ((oS (tableAt Try.f8 0) n).data.toList = [74, 65, 77])) (decide ((oS (tableAt Try.f8 0) n).data.toList = [74, 77, 80])) (ones (tableAt Try.f21 0) (oS (tableAt Try.f8 0) n) 6) = oM (tableAt Try.f8 1) (tableAt Try.f8 2) n)) = true := by decide +kernel
theorem all_uses : (List.range 256).all (fun n => (ones (tableAt Try.f22 0) (oS (tableAt Try.f8 0) n) 8 == Lib.contains WR (oS (tableAt Try.f8 0) n).data.toList) && (ones (tableAt Try.f22 1) (oS (tableAt Try.f8 0) n) 12 == Lib.contains BO (oS (tableAt Try.f8 0) n).data.toList)) = true := by decide +kernel
theorem all_rare : (List.range 256).all (fun n => ones (tableAt Try.f10 0) (oS (tableAt Try.f8 0) n) 20 == Lib.contains (tableAt Try.f8 3).data.toList (oS (tableAt Try.f8 0) n).data.toList) = true := by decide +kernel
end Go.Proofs.Ytbekiknbjpdchaa
