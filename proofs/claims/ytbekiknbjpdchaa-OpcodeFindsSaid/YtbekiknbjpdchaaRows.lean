/-
  No cell of these rows narrows 'for every input' (looked for: loops, veiled, ifaces, maps, wideKeys, modest, calm, conditions, laid).
  DERIVED. THE GIVEN ROWS OF THIS SEAT. 5 by the template 'for every input the law returns true; each argument reads behind the call as it read before'; 0 by the template 'total and deterministic' (their statements: YtbekiknbjpdchaaTotals.lean).
  GIVEN WITH THE SEED: the statements are not yours to turn. If you find one false, say at which input.
  Laid BY PROGRAM, IN A SANDBOX (cutbox-rows.mjs): the forced cells as the released guide's own fill.sh prints them over the translation 5c688b87cb0165c6… (all of the seat's roots in one cut). By AI agents, Wed Nov 11 2026. No macro, syntax, notation, axiom, sorry.
-/
import Derived.Test.YtbekiknbjpdchaaChecked
import GoSem.Claim
import GoSem.ClaimJoined
import GoSem.ClaimMapViews
import Derived.JoinedTies
import Derived.KernelRfl
namespace Go.Proofs.Ytbekiknbjpdchaa
/- THE CELL 'sum', in the pinned program and in every row, IS THE sha256 OF THE DUMP (.gsa) THAT YtbekiknbjpdchaaProg.lean LOADS. Nothing in Lean hashes anything: it is a label: what it is worth is what the hold of that sum in a sandbox is worth. -/
noncomputable def Try.pinned : Pinned := { name := "ytbekiknbjpdchaa", sum := "5c688b87cb0165c6e43e639fa62e38343d376e9d86a64e30fc5ab9cb8368cb72", checked := Try.checked }
namespace Rows
def none {H : Type} : Left H := { results := [], args := [] }

/-- 'seepagelaw09.OpcodeCounts': WHATEVER THE INPUT: true; the input reads as it did. -/
def opcodeCountsSpec : ChangeSpec := { name := "opcodeCounts", fn := fun _ => fun
  | [d] => { results := [.lit (.bool true)], args := [d] }
  | _ => none }
def opcodeCountsRow : OpenClaim := { program := "ytbekiknbjpdchaa", sum := "5c688b87cb0165c6e43e639fa62e38343d376e9d86a64e30fc5ab9cb8368cb72", func := "seepage/seepagelaw09.OpcodeCounts", spec := "opcodeCounts", inPlace := ["internal/bytealg.IndexByteString", "internal/bytealg.IndexString"], named := ["internal/bytealg.MaxLen"], apart := false }
def OpcodeCountsSaid : Prop := opcodeCountsRow.holds Try.pinned (OpenSpec.ofChange opcodeCountsSpec)

/-- ITS FALSE NEIGHBOUR: 'it returns false'. Refute it at one input. -/
def opcodeCountsWrong : ChangeSpec := { name := "opcodeCounts", fn := fun _ => fun
  | [d] => { results := [.lit (.bool false)], args := [d] }
  | _ => none }
def OpcodeCountsWrongFalsely : Prop := opcodeCountsRow.holds Try.pinned (OpenSpec.ofChange opcodeCountsWrong)

/-- 'seepagelaw09.OpcodeUses': WHATEVER THE INPUT: true; the input reads as it did. -/
def opcodeUsesSpec : ChangeSpec := { name := "opcodeUses", fn := fun _ => fun
  | [d] => { results := [.lit (.bool true)], args := [d] }
  | _ => none }
def opcodeUsesRow : OpenClaim := { program := "ytbekiknbjpdchaa", sum := "5c688b87cb0165c6e43e639fa62e38343d376e9d86a64e30fc5ab9cb8368cb72", func := "seepage/seepagelaw09.OpcodeUses", spec := "opcodeUses", inPlace := ["internal/bytealg.IndexByteString", "internal/bytealg.IndexString"], named := ["internal/bytealg.MaxLen"], apart := false }
def OpcodeUsesSaid : Prop := opcodeUsesRow.holds Try.pinned (OpenSpec.ofChange opcodeUsesSpec)

/-- ITS FALSE NEIGHBOUR: 'it returns false'. Refute it at one input. -/
def opcodeUsesWrong : ChangeSpec := { name := "opcodeUses", fn := fun _ => fun
  | [d] => { results := [.lit (.bool false)], args := [d] }
  | _ => none }
def OpcodeUsesWrongFalsely : Prop := opcodeUsesRow.holds Try.pinned (OpenSpec.ofChange opcodeUsesWrong)

/-- 'seepagelaw09.OpcodeTable': WHATEVER THE INPUT: true; the input reads as it did. -/
def opcodeTableSpec : ChangeSpec := { name := "opcodeTable", fn := fun _ => fun
  | [d] => { results := [.lit (.bool true)], args := [d] }
  | _ => none }
def opcodeTableRow : OpenClaim := { program := "ytbekiknbjpdchaa", sum := "5c688b87cb0165c6e43e639fa62e38343d376e9d86a64e30fc5ab9cb8368cb72", func := "seepage/seepagelaw09.OpcodeTable", spec := "opcodeTable", inPlace := ["internal/bytealg.IndexByteString", "internal/bytealg.IndexString"], named := ["internal/bytealg.MaxLen"], apart := false }
def OpcodeTableSaid : Prop := opcodeTableRow.holds Try.pinned (OpenSpec.ofChange opcodeTableSpec)

/-- ITS FALSE NEIGHBOUR: 'it returns false'. Refute it at one input. -/
def opcodeTableWrong : ChangeSpec := { name := "opcodeTable", fn := fun _ => fun
  | [d] => { results := [.lit (.bool false)], args := [d] }
  | _ => none }
def OpcodeTableWrongFalsely : Prop := opcodeTableRow.holds Try.pinned (OpenSpec.ofChange opcodeTableWrong)

/-- 'seepagelaw09.OpcodeCycles': WHATEVER THE INPUT: true; the input reads as it did. -/
def opcodeCyclesSpec : ChangeSpec := { name := "opcodeCycles", fn := fun _ => fun
  | [d1, d2] => { results := [.lit (.bool true)], args := [d1, d2] }
  | _ => none }
def opcodeCyclesRow : OpenClaim := { program := "ytbekiknbjpdchaa", sum := "5c688b87cb0165c6e43e639fa62e38343d376e9d86a64e30fc5ab9cb8368cb72", func := "seepage/seepagelaw09.OpcodeCycles", spec := "opcodeCycles", inPlace := ["internal/bytealg.IndexByteString", "internal/bytealg.IndexString"], named := ["internal/bytealg.MaxLen"], apart := false }
def OpcodeCyclesSaid : Prop := opcodeCyclesRow.holds Try.pinned (OpenSpec.ofChange opcodeCyclesSpec)

/-- ITS FALSE NEIGHBOUR: 'it returns false'. Refute it at one input. -/
def opcodeCyclesWrong : ChangeSpec := { name := "opcodeCycles", fn := fun _ => fun
  | [d1, d2] => { results := [.lit (.bool false)], args := [d1, d2] }
  | _ => none }
def OpcodeCyclesWrongFalsely : Prop := opcodeCyclesRow.holds Try.pinned (OpenSpec.ofChange opcodeCyclesWrong)

/-- 'seepagelaw09.OpcodeFinds': WHATEVER THE INPUT: true; the input reads as it did. -/
def opcodeFindsSpec : ChangeSpec := { name := "opcodeFinds", fn := fun _ => fun
  | [d1, d2] => { results := [.lit (.bool true)], args := [d1, d2] }
  | _ => none }
def opcodeFindsRow : OpenClaim := { program := "ytbekiknbjpdchaa", sum := "5c688b87cb0165c6e43e639fa62e38343d376e9d86a64e30fc5ab9cb8368cb72", func := "seepage/seepagelaw09.OpcodeFinds", spec := "opcodeFinds", inPlace := ["internal/bytealg.IndexByteString", "internal/bytealg.IndexString"], unfollowed := true, recurses := true, named := ["internal/bytealg.MaxLen"], apart := false }
def OpcodeFindsSaid : Prop := opcodeFindsRow.holds Try.pinned (OpenSpec.ofChange opcodeFindsSpec)

/-- ITS FALSE NEIGHBOUR: 'it returns false'. Refute it at one input. -/
def opcodeFindsWrong : ChangeSpec := { name := "opcodeFinds", fn := fun _ => fun
  | [d1, d2] => { results := [.lit (.bool false)], args := [d1, d2] }
  | _ => none }
def OpcodeFindsWrongFalsely : Prop := opcodeFindsRow.holds Try.pinned (OpenSpec.ofChange opcodeFindsWrong)

/- THE SECOND FORM. 'bulk': how many values and letters a reading holds, each counted each time it is reached (what is shared counts as often as it is met; a slice's spare places count too). A statement '..UptoSaid' is the law's where the arguments, and the package variables that the reading takes, are together of bulk at most 1048576: NARROWER than '..Said'. Prove '..Said' where nothing that the law and all that it calls make is longer than what came in: it says more and counts as full. Else prove '..UptoSaid'. A law counts once. -/
mutual
def uptoBulk {H : Type} : DataW H → Nat
  | .lit (.string bytes) => bytes.length + 1
  | .lit _ => 1
  | .nil => 1
  | .ptr d => uptoBulk d + 1
  | .slice elems spare => uptoBulkAll elems + uptoBulkAll spare + 1
  | .agg parts => uptoBulkAll parts + 1
  | .iface _ d => uptoBulk d + 1
  | .map entries => uptoBulkEntries entries + 1
  | .held _ => 1
def uptoBulkAll {H : Type} : List (DataW H) → Nat
  | [] => 0
  | d :: r => uptoBulk d + uptoBulkAll r
def uptoBulkEntries {H : Type} : List (Lit × DataW H) → Nat
  | [] => 0
  | x :: r => uptoBulkEntry x + uptoBulkEntries r
def uptoBulkEntry {H : Type} : Lit × DataW H → Nat
  | (.string bytes, d) => bytes.length + uptoBulk d + 1
  | (_, d) => uptoBulk d + 1
 end
def uptoSmall : (H : Type) → List (DataW H) → Bool := fun _ ds => decide (uptoBulkAll ds ≤ 1048576)
def OpenSpec.upto (s : _root_.Go.ChangeSpec) : _root_.Go.OpenSpec := { _root_.Go.OpenSpec.ofChange s with cond := some uptoSmall }

/-- 'seepagelaw09.OpcodeCounts', WHERE WHAT IT READS IS OF BULK AT MOST 1048576: true; the input reads as it did. -/
def opcodeCountsUptoRow : OpenClaim := { program := "ytbekiknbjpdchaa", sum := "5c688b87cb0165c6e43e639fa62e38343d376e9d86a64e30fc5ab9cb8368cb72", func := "seepage/seepagelaw09.OpcodeCounts", spec := "opcodeCounts", inPlace := ["internal/bytealg.IndexByteString", "internal/bytealg.IndexString"], named := ["internal/bytealg.MaxLen"], apart := false, narrowed := true }
def OpcodeCountsUptoSaid : Prop := opcodeCountsUptoRow.holds Try.pinned (OpenSpec.upto opcodeCountsSpec)

/-- 'seepagelaw09.OpcodeUses', WHERE WHAT IT READS IS OF BULK AT MOST 1048576: true; the input reads as it did. -/
def opcodeUsesUptoRow : OpenClaim := { program := "ytbekiknbjpdchaa", sum := "5c688b87cb0165c6e43e639fa62e38343d376e9d86a64e30fc5ab9cb8368cb72", func := "seepage/seepagelaw09.OpcodeUses", spec := "opcodeUses", inPlace := ["internal/bytealg.IndexByteString", "internal/bytealg.IndexString"], named := ["internal/bytealg.MaxLen"], apart := false, narrowed := true }
def OpcodeUsesUptoSaid : Prop := opcodeUsesUptoRow.holds Try.pinned (OpenSpec.upto opcodeUsesSpec)

/-- 'seepagelaw09.OpcodeTable', WHERE WHAT IT READS IS OF BULK AT MOST 1048576: true; the input reads as it did. -/
def opcodeTableUptoRow : OpenClaim := { program := "ytbekiknbjpdchaa", sum := "5c688b87cb0165c6e43e639fa62e38343d376e9d86a64e30fc5ab9cb8368cb72", func := "seepage/seepagelaw09.OpcodeTable", spec := "opcodeTable", inPlace := ["internal/bytealg.IndexByteString", "internal/bytealg.IndexString"], named := ["internal/bytealg.MaxLen"], apart := false, narrowed := true }
def OpcodeTableUptoSaid : Prop := opcodeTableUptoRow.holds Try.pinned (OpenSpec.upto opcodeTableSpec)

/-- 'seepagelaw09.OpcodeCycles', WHERE WHAT IT READS IS OF BULK AT MOST 1048576: true; the input reads as it did. -/
def opcodeCyclesUptoRow : OpenClaim := { program := "ytbekiknbjpdchaa", sum := "5c688b87cb0165c6e43e639fa62e38343d376e9d86a64e30fc5ab9cb8368cb72", func := "seepage/seepagelaw09.OpcodeCycles", spec := "opcodeCycles", inPlace := ["internal/bytealg.IndexByteString", "internal/bytealg.IndexString"], named := ["internal/bytealg.MaxLen"], apart := false, narrowed := true }
def OpcodeCyclesUptoSaid : Prop := opcodeCyclesUptoRow.holds Try.pinned (OpenSpec.upto opcodeCyclesSpec)

/-- 'seepagelaw09.OpcodeFinds', WHERE WHAT IT READS IS OF BULK AT MOST 1048576: true; the input reads as it did. -/
def opcodeFindsUptoRow : OpenClaim := { program := "ytbekiknbjpdchaa", sum := "5c688b87cb0165c6e43e639fa62e38343d376e9d86a64e30fc5ab9cb8368cb72", func := "seepage/seepagelaw09.OpcodeFinds", spec := "opcodeFinds", inPlace := ["internal/bytealg.IndexByteString", "internal/bytealg.IndexString"], unfollowed := true, recurses := true, named := ["internal/bytealg.MaxLen"], apart := false, narrowed := true }
def OpcodeFindsUptoSaid : Prop := opcodeFindsUptoRow.holds Try.pinned (OpenSpec.upto opcodeFindsSpec)

end Rows
end Go.Proofs.Ytbekiknbjpdchaa
