/-
  No cell of these rows narrows 'for every input' (looked for: loops, veiled, ifaces, maps, wideKeys, modest, calm, conditions, laid).
  DERIVED. THE GIVEN ROWS OF THIS SEAT. 5 by the template 'for every input the law returns true; each argument reads behind the call as it read before'; 0 by the template 'total and deterministic' (their statements: YtbimklogfaihlaaTotals.lean).
  GIVEN WITH THE SEED: the statements are not yours to turn. If you find one false, say at which input.
  Laid BY PROGRAM, IN A SANDBOX (cutbox-rows.mjs): the forced cells as the released guide's own fill.sh prints them over the translation e6865885aaad40b6… (all of the seat's roots in one cut). By AI agents, Wed Nov 11 2026. No macro, syntax, notation, axiom, sorry.
-/
import Derived.Test.YtbimklogfaihlaaChecked
import GoSem.Claim
import GoSem.ClaimJoined
import GoSem.ClaimMapViews
import Derived.JoinedTies
import Derived.KernelRfl
namespace Go.Proofs.Ytbimklogfaihlaa
/- THE CELL 'sum', in the pinned program and in every row, IS THE sha256 OF THE DUMP (.gsa) THAT YtbimklogfaihlaaProg.lean LOADS. Nothing in Lean hashes anything: it is a label: what it is worth is what the hold of that sum in a sandbox is worth. -/
noncomputable def Try.pinned : Pinned := { name := "ytbimklogfaihlaa", sum := "e6865885aaad40b62fba0492a39ae064ee56fed28a4d969a1e8a99366e3495ae", checked := Try.checked }
namespace Rows
def none {H : Type} : Left H := { results := [], args := [] }

/-- 'seepagelaw13.VramTells': WHATEVER THE INPUT: true; the input reads as it did. -/
def vramTellsSpec : ChangeSpec := { name := "vramTells", fn := fun _ => fun
  | [d1, d2] => { results := [.lit (.bool true)], args := [d1, d2] }
  | _ => none }
def vramTellsRow : OpenClaim := { program := "ytbimklogfaihlaa", sum := "e6865885aaad40b62fba0492a39ae064ee56fed28a4d969a1e8a99366e3495ae", func := "seepage/seepagelaw13.VramTells", spec := "vramTells", apart := false }
def VramTellsSaid : Prop := vramTellsRow.holds Try.pinned (OpenSpec.ofChange vramTellsSpec)

/-- ITS FALSE NEIGHBOUR: 'it returns false'. Refute it at one input. -/
def vramTellsWrong : ChangeSpec := { name := "vramTells", fn := fun _ => fun
  | [d1, d2] => { results := [.lit (.bool false)], args := [d1, d2] }
  | _ => none }
def VramTellsWrongFalsely : Prop := vramTellsRow.holds Try.pinned (OpenSpec.ofChange vramTellsWrong)

/-- 'seepagelaw13.VramWithin': WHATEVER THE INPUT: true; the input reads as it did. -/
def vramWithinSpec : ChangeSpec := { name := "vramWithin", fn := fun _ => fun
  | [d1, d2] => { results := [.lit (.bool true)], args := [d1, d2] }
  | _ => none }
def vramWithinRow : OpenClaim := { program := "ytbimklogfaihlaa", sum := "e6865885aaad40b62fba0492a39ae064ee56fed28a4d969a1e8a99366e3495ae", func := "seepage/seepagelaw13.VramWithin", spec := "vramWithin", apart := false }
def VramWithinSaid : Prop := vramWithinRow.holds Try.pinned (OpenSpec.ofChange vramWithinSpec)

/-- ITS FALSE NEIGHBOUR: 'it returns false'. Refute it at one input. -/
def vramWithinWrong : ChangeSpec := { name := "vramWithin", fn := fun _ => fun
  | [d1, d2] => { results := [.lit (.bool false)], args := [d1, d2] }
  | _ => none }
def VramWithinWrongFalsely : Prop := vramWithinRow.holds Try.pinned (OpenSpec.ofChange vramWithinWrong)

/-- 'seepagelaw13.VramMirrors': WHATEVER THE INPUT: true; the input reads as it did. -/
def vramMirrorsSpec : ChangeSpec := { name := "vramMirrors", fn := fun _ => fun
  | [d1, d2, d3] => { results := [.lit (.bool true)], args := [d1, d2, d3] }
  | _ => none }
def vramMirrorsRow : OpenClaim := { program := "ytbimklogfaihlaa", sum := "e6865885aaad40b62fba0492a39ae064ee56fed28a4d969a1e8a99366e3495ae", func := "seepage/seepagelaw13.VramMirrors", spec := "vramMirrors", apart := false }
def VramMirrorsSaid : Prop := vramMirrorsRow.holds Try.pinned (OpenSpec.ofChange vramMirrorsSpec)

/-- ITS FALSE NEIGHBOUR: 'it returns false'. Refute it at one input. -/
def vramMirrorsWrong : ChangeSpec := { name := "vramMirrors", fn := fun _ => fun
  | [d1, d2, d3] => { results := [.lit (.bool false)], args := [d1, d2, d3] }
  | _ => none }
def VramMirrorsWrongFalsely : Prop := vramMirrorsRow.holds Try.pinned (OpenSpec.ofChange vramMirrorsWrong)

/-- 'seepagelaw13.VramAround': WHATEVER THE INPUT: true; the input reads as it did. -/
def vramAroundSpec : ChangeSpec := { name := "vramAround", fn := fun _ => fun
  | [d1, d2] => { results := [.lit (.bool true)], args := [d1, d2] }
  | _ => none }
def vramAroundRow : OpenClaim := { program := "ytbimklogfaihlaa", sum := "e6865885aaad40b62fba0492a39ae064ee56fed28a4d969a1e8a99366e3495ae", func := "seepage/seepagelaw13.VramAround", spec := "vramAround", apart := false }
def VramAroundSaid : Prop := vramAroundRow.holds Try.pinned (OpenSpec.ofChange vramAroundSpec)

/-- ITS FALSE NEIGHBOUR: 'it returns false'. Refute it at one input. -/
def vramAroundWrong : ChangeSpec := { name := "vramAround", fn := fun _ => fun
  | [d1, d2] => { results := [.lit (.bool false)], args := [d1, d2] }
  | _ => none }
def VramAroundWrongFalsely : Prop := vramAroundRow.holds Try.pinned (OpenSpec.ofChange vramAroundWrong)

/-- 'seepagelaw13.VramColours': WHATEVER THE INPUT: true; the input reads as it did. -/
def vramColoursSpec : ChangeSpec := { name := "vramColours", fn := fun _ => fun
  | [d] => { results := [.lit (.bool true)], args := [d] }
  | _ => none }
def vramColoursRow : OpenClaim := { program := "ytbimklogfaihlaa", sum := "e6865885aaad40b62fba0492a39ae064ee56fed28a4d969a1e8a99366e3495ae", func := "seepage/seepagelaw13.VramColours", spec := "vramColours", apart := false }
def VramColoursSaid : Prop := vramColoursRow.holds Try.pinned (OpenSpec.ofChange vramColoursSpec)

/-- ITS FALSE NEIGHBOUR: 'it returns false'. Refute it at one input. -/
def vramColoursWrong : ChangeSpec := { name := "vramColours", fn := fun _ => fun
  | [d] => { results := [.lit (.bool false)], args := [d] }
  | _ => none }
def VramColoursWrongFalsely : Prop := vramColoursRow.holds Try.pinned (OpenSpec.ofChange vramColoursWrong)

/- THE SECOND FORM. 'bulk': how many values and letters a reading holds, each counted each time it is reached (what is shared counts as often as it is met; a slice's spare places count too). A statement '..UptoSaid' is the law's where the arguments, and the package variables that the reading takes, are together of bulk at most 1048576: NARROWER than '..Said'. Prove '..Said' where nothing that the law and all that it calls make is longer than what came in: it says more and counts as full. Else prove '..UptoSaid'. A law counts once. -/
mutual
def uptoBulk {H : Type} : DataW H → Nat
  | .lit (.string bytes) => bytes.length + 1
  | .lit _ => 1
  | .nil => 1
  | .ptr d => uptoBulk d + 1
  | .slice elems spare => uptoBulkAll elems + uptoBulkAll spare + 1
  | .agg parts => uptoBulkAll parts + 1
  | .iface _ d => uptoBulk d + 1
  | .map entries => uptoBulkEntries entries + 1
  | .held _ => 1
def uptoBulkAll {H : Type} : List (DataW H) → Nat
  | [] => 0
  | d :: r => uptoBulk d + uptoBulkAll r
def uptoBulkEntries {H : Type} : List (Lit × DataW H) → Nat
  | [] => 0
  | x :: r => uptoBulkEntry x + uptoBulkEntries r
def uptoBulkEntry {H : Type} : Lit × DataW H → Nat
  | (.string bytes, d) => bytes.length + uptoBulk d + 1
  | (_, d) => uptoBulk d + 1
 end
def uptoSmall : (H : Type) → List (DataW H) → Bool := fun _ ds => decide (uptoBulkAll ds ≤ 1048576)
def OpenSpec.upto (s : _root_.Go.ChangeSpec) : _root_.Go.OpenSpec := { _root_.Go.OpenSpec.ofChange s with cond := some uptoSmall }

/-- 'seepagelaw13.VramTells', WHERE WHAT IT READS IS OF BULK AT MOST 1048576: true; the input reads as it did. -/
def vramTellsUptoRow : OpenClaim := { program := "ytbimklogfaihlaa", sum := "e6865885aaad40b62fba0492a39ae064ee56fed28a4d969a1e8a99366e3495ae", func := "seepage/seepagelaw13.VramTells", spec := "vramTells", apart := false, narrowed := true }
def VramTellsUptoSaid : Prop := vramTellsUptoRow.holds Try.pinned (OpenSpec.upto vramTellsSpec)

/-- 'seepagelaw13.VramWithin', WHERE WHAT IT READS IS OF BULK AT MOST 1048576: true; the input reads as it did. -/
def vramWithinUptoRow : OpenClaim := { program := "ytbimklogfaihlaa", sum := "e6865885aaad40b62fba0492a39ae064ee56fed28a4d969a1e8a99366e3495ae", func := "seepage/seepagelaw13.VramWithin", spec := "vramWithin", apart := false, narrowed := true }
def VramWithinUptoSaid : Prop := vramWithinUptoRow.holds Try.pinned (OpenSpec.upto vramWithinSpec)

/-- 'seepagelaw13.VramMirrors', WHERE WHAT IT READS IS OF BULK AT MOST 1048576: true; the input reads as it did. -/
def vramMirrorsUptoRow : OpenClaim := { program := "ytbimklogfaihlaa", sum := "e6865885aaad40b62fba0492a39ae064ee56fed28a4d969a1e8a99366e3495ae", func := "seepage/seepagelaw13.VramMirrors", spec := "vramMirrors", apart := false, narrowed := true }
def VramMirrorsUptoSaid : Prop := vramMirrorsUptoRow.holds Try.pinned (OpenSpec.upto vramMirrorsSpec)

/-- 'seepagelaw13.VramAround', WHERE WHAT IT READS IS OF BULK AT MOST 1048576: true; the input reads as it did. -/
def vramAroundUptoRow : OpenClaim := { program := "ytbimklogfaihlaa", sum := "e6865885aaad40b62fba0492a39ae064ee56fed28a4d969a1e8a99366e3495ae", func := "seepage/seepagelaw13.VramAround", spec := "vramAround", apart := false, narrowed := true }
def VramAroundUptoSaid : Prop := vramAroundUptoRow.holds Try.pinned (OpenSpec.upto vramAroundSpec)

/-- 'seepagelaw13.VramColours', WHERE WHAT IT READS IS OF BULK AT MOST 1048576: true; the input reads as it did. -/
def vramColoursUptoRow : OpenClaim := { program := "ytbimklogfaihlaa", sum := "e6865885aaad40b62fba0492a39ae064ee56fed28a4d969a1e8a99366e3495ae", func := "seepage/seepagelaw13.VramColours", spec := "vramColours", apart := false, narrowed := true }
def VramColoursUptoSaid : Prop := vramColoursUptoRow.holds Try.pinned (OpenSpec.upto vramColoursSpec)

end Rows
end Go.Proofs.Ytbimklogfaihlaa
