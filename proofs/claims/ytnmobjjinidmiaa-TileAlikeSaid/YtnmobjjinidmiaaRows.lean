/-
  No cell of these rows narrows 'for every input' (looked for: loops, veiled, ifaces, maps, wideKeys, modest, calm, conditions, laid).
  DERIVED. THE GIVEN ROWS OF THIS SEAT. 6 by the template 'for every input the law returns true; each argument reads behind the call as it read before'; 0 by the template 'total and deterministic' (their statements: YtnmobjjinidmiaaTotals.lean).
  GIVEN WITH THE SEED: the statements are not yours to turn. If you find one false, say at which input.
  Laid BY PROGRAM, IN A SANDBOX (cutbox-rows.mjs): the forced cells as the released guide's own fill.sh prints them over the translation cc674ed62e719c0a… (all of the seat's roots in one cut). By AI agents, Wed Nov 11 2026. No macro, syntax, notation, axiom, sorry.
-/
import Derived.Test.YtnmobjjinidmiaaChecked
import GoSem.Claim
import GoSem.ClaimJoined
import GoSem.ClaimMapViews
import Derived.JoinedTies
import Derived.KernelRfl
namespace Go.Proofs.Ytnmobjjinidmiaa
/- THE CELL 'sum', in the pinned program and in every row, IS THE sha256 OF THE DUMP (.gsa) THAT YtnmobjjinidmiaaProg.lean LOADS. Nothing in Lean hashes anything: it is a label: what it is worth is what the hold of that sum in a sandbox is worth. -/
noncomputable def Try.pinned : Pinned := { name := "ytnmobjjinidmiaa", sum := "cc674ed62e719c0aa3db0d1186527b718b00b93df7046b44202e94504b3868c3", checked := Try.checked }
namespace Rows
def none {H : Type} : Left H := { results := [], args := [] }

/-- 'seepagelaw14.TileComes': WHATEVER THE INPUT: true; the input reads as it did. -/
def tileComesSpec : ChangeSpec := { name := "tileComes", fn := fun _ => fun
  | [d] => { results := [.lit (.bool true)], args := [d] }
  | _ => none }
def tileComesRow : OpenClaim := { program := "ytnmobjjinidmiaa", sum := "cc674ed62e719c0aa3db0d1186527b718b00b93df7046b44202e94504b3868c3", func := "seepage/seepagelaw14.TileComes", spec := "tileComes", apart := false }
def TileComesSaid : Prop := tileComesRow.holds Try.pinned (OpenSpec.ofChange tileComesSpec)

/-- ITS FALSE NEIGHBOUR: 'it returns false'. Refute it at one input. -/
def tileComesWrong : ChangeSpec := { name := "tileComes", fn := fun _ => fun
  | [d] => { results := [.lit (.bool false)], args := [d] }
  | _ => none }
def TileComesWrongFalsely : Prop := tileComesRow.holds Try.pinned (OpenSpec.ofChange tileComesWrong)

/-- 'seepagelaw14.TileFine': WHATEVER THE INPUT: true; the input reads as it did. -/
def tileFineSpec : ChangeSpec := { name := "tileFine", fn := fun _ => fun
  | [d] => { results := [.lit (.bool true)], args := [d] }
  | _ => none }
def tileFineRow : OpenClaim := { program := "ytnmobjjinidmiaa", sum := "cc674ed62e719c0aa3db0d1186527b718b00b93df7046b44202e94504b3868c3", func := "seepage/seepagelaw14.TileFine", spec := "tileFine", apart := false }
def TileFineSaid : Prop := tileFineRow.holds Try.pinned (OpenSpec.ofChange tileFineSpec)

/-- ITS FALSE NEIGHBOUR: 'it returns false'. Refute it at one input. -/
def tileFineWrong : ChangeSpec := { name := "tileFine", fn := fun _ => fun
  | [d] => { results := [.lit (.bool false)], args := [d] }
  | _ => none }
def TileFineWrongFalsely : Prop := tileFineRow.holds Try.pinned (OpenSpec.ofChange tileFineWrong)

/-- 'seepagelaw14.TileTwo': WHATEVER THE INPUT: true; the input reads as it did. -/
def tileTwoSpec : ChangeSpec := { name := "tileTwo", fn := fun _ => fun
  | [d1, d2] => { results := [.lit (.bool true)], args := [d1, d2] }
  | _ => none }
def tileTwoRow : OpenClaim := { program := "ytnmobjjinidmiaa", sum := "cc674ed62e719c0aa3db0d1186527b718b00b93df7046b44202e94504b3868c3", func := "seepage/seepagelaw14.TileTwo", spec := "tileTwo", apart := false }
def TileTwoSaid : Prop := tileTwoRow.holds Try.pinned (OpenSpec.ofChange tileTwoSpec)

/-- ITS FALSE NEIGHBOUR: 'it returns false'. Refute it at one input. -/
def tileTwoWrong : ChangeSpec := { name := "tileTwo", fn := fun _ => fun
  | [d1, d2] => { results := [.lit (.bool false)], args := [d1, d2] }
  | _ => none }
def TileTwoWrongFalsely : Prop := tileTwoRow.holds Try.pinned (OpenSpec.ofChange tileTwoWrong)

/-- 'seepagelaw14.TileErased': WHATEVER THE INPUT: true; the input reads as it did. -/
def tileErasedSpec : ChangeSpec := { name := "tileErased", fn := fun _ => fun
  | [d] => { results := [.lit (.bool true)], args := [d] }
  | _ => none }
def tileErasedRow : OpenClaim := { program := "ytnmobjjinidmiaa", sum := "cc674ed62e719c0aa3db0d1186527b718b00b93df7046b44202e94504b3868c3", func := "seepage/seepagelaw14.TileErased", spec := "tileErased", apart := false }
def TileErasedSaid : Prop := tileErasedRow.holds Try.pinned (OpenSpec.ofChange tileErasedSpec)

/-- ITS FALSE NEIGHBOUR: 'it returns false'. Refute it at one input. -/
def tileErasedWrong : ChangeSpec := { name := "tileErased", fn := fun _ => fun
  | [d] => { results := [.lit (.bool false)], args := [d] }
  | _ => none }
def TileErasedWrongFalsely : Prop := tileErasedRow.holds Try.pinned (OpenSpec.ofChange tileErasedWrong)

/-- 'seepagelaw14.TileAlike': WHATEVER THE INPUT: true; the input reads as it did. -/
def tileAlikeSpec : ChangeSpec := { name := "tileAlike", fn := fun _ => fun
  | [d1, d2] => { results := [.lit (.bool true)], args := [d1, d2] }
  | _ => none }
def tileAlikeRow : OpenClaim := { program := "ytnmobjjinidmiaa", sum := "cc674ed62e719c0aa3db0d1186527b718b00b93df7046b44202e94504b3868c3", func := "seepage/seepagelaw14.TileAlike", spec := "tileAlike", apart := false }
def TileAlikeSaid : Prop := tileAlikeRow.holds Try.pinned (OpenSpec.ofChange tileAlikeSpec)

/-- ITS FALSE NEIGHBOUR: 'it returns false'. Refute it at one input. -/
def tileAlikeWrong : ChangeSpec := { name := "tileAlike", fn := fun _ => fun
  | [d1, d2] => { results := [.lit (.bool false)], args := [d1, d2] }
  | _ => none }
def TileAlikeWrongFalsely : Prop := tileAlikeRow.holds Try.pinned (OpenSpec.ofChange tileAlikeWrong)

/-- 'seepagelaw14.TileTells': WHATEVER THE INPUT: true; the input reads as it did. -/
def tileTellsSpec : ChangeSpec := { name := "tileTells", fn := fun _ => fun
  | [d1, d2] => { results := [.lit (.bool true)], args := [d1, d2] }
  | _ => none }
def tileTellsRow : OpenClaim := { program := "ytnmobjjinidmiaa", sum := "cc674ed62e719c0aa3db0d1186527b718b00b93df7046b44202e94504b3868c3", func := "seepage/seepagelaw14.TileTells", spec := "tileTells", apart := false }
def TileTellsSaid : Prop := tileTellsRow.holds Try.pinned (OpenSpec.ofChange tileTellsSpec)

/-- ITS FALSE NEIGHBOUR: 'it returns false'. Refute it at one input. -/
def tileTellsWrong : ChangeSpec := { name := "tileTells", fn := fun _ => fun
  | [d1, d2] => { results := [.lit (.bool false)], args := [d1, d2] }
  | _ => none }
def TileTellsWrongFalsely : Prop := tileTellsRow.holds Try.pinned (OpenSpec.ofChange tileTellsWrong)

/- THE SECOND FORM. 'bulk': how many values and letters a reading holds, each counted each time it is reached (what is shared counts as often as it is met; a slice's spare places count too). A statement '..UptoSaid' is the law's where the arguments, and the package variables that the reading takes, are together of bulk at most 1048576: NARROWER than '..Said'. Prove '..Said' where nothing that the law and all that it calls make is longer than what came in: it says more and counts as full. Else prove '..UptoSaid'. A law counts once. -/
mutual
def uptoBulk {H : Type} : DataW H → Nat
  | .lit (.string bytes) => bytes.length + 1
  | .lit _ => 1
  | .nil => 1
  | .ptr d => uptoBulk d + 1
  | .slice elems spare => uptoBulkAll elems + uptoBulkAll spare + 1
  | .agg parts => uptoBulkAll parts + 1
  | .iface _ d => uptoBulk d + 1
  | .map entries => uptoBulkEntries entries + 1
  | .held _ => 1
def uptoBulkAll {H : Type} : List (DataW H) → Nat
  | [] => 0
  | d :: r => uptoBulk d + uptoBulkAll r
def uptoBulkEntries {H : Type} : List (Lit × DataW H) → Nat
  | [] => 0
  | x :: r => uptoBulkEntry x + uptoBulkEntries r
def uptoBulkEntry {H : Type} : Lit × DataW H → Nat
  | (.string bytes, d) => bytes.length + uptoBulk d + 1
  | (_, d) => uptoBulk d + 1
 end
def uptoSmall : (H : Type) → List (DataW H) → Bool := fun _ ds => decide (uptoBulkAll ds ≤ 1048576)
def OpenSpec.upto (s : _root_.Go.ChangeSpec) : _root_.Go.OpenSpec := { _root_.Go.OpenSpec.ofChange s with cond := some uptoSmall }

/-- 'seepagelaw14.TileComes', WHERE WHAT IT READS IS OF BULK AT MOST 1048576: true; the input reads as it did. -/
def tileComesUptoRow : OpenClaim := { program := "ytnmobjjinidmiaa", sum := "cc674ed62e719c0aa3db0d1186527b718b00b93df7046b44202e94504b3868c3", func := "seepage/seepagelaw14.TileComes", spec := "tileComes", apart := false, narrowed := true }
def TileComesUptoSaid : Prop := tileComesUptoRow.holds Try.pinned (OpenSpec.upto tileComesSpec)

/-- 'seepagelaw14.TileFine', WHERE WHAT IT READS IS OF BULK AT MOST 1048576: true; the input reads as it did. -/
def tileFineUptoRow : OpenClaim := { program := "ytnmobjjinidmiaa", sum := "cc674ed62e719c0aa3db0d1186527b718b00b93df7046b44202e94504b3868c3", func := "seepage/seepagelaw14.TileFine", spec := "tileFine", apart := false, narrowed := true }
def TileFineUptoSaid : Prop := tileFineUptoRow.holds Try.pinned (OpenSpec.upto tileFineSpec)

/-- 'seepagelaw14.TileTwo', WHERE WHAT IT READS IS OF BULK AT MOST 1048576: true; the input reads as it did. -/
def tileTwoUptoRow : OpenClaim := { program := "ytnmobjjinidmiaa", sum := "cc674ed62e719c0aa3db0d1186527b718b00b93df7046b44202e94504b3868c3", func := "seepage/seepagelaw14.TileTwo", spec := "tileTwo", apart := false, narrowed := true }
def TileTwoUptoSaid : Prop := tileTwoUptoRow.holds Try.pinned (OpenSpec.upto tileTwoSpec)

/-- 'seepagelaw14.TileErased', WHERE WHAT IT READS IS OF BULK AT MOST 1048576: true; the input reads as it did. -/
def tileErasedUptoRow : OpenClaim := { program := "ytnmobjjinidmiaa", sum := "cc674ed62e719c0aa3db0d1186527b718b00b93df7046b44202e94504b3868c3", func := "seepage/seepagelaw14.TileErased", spec := "tileErased", apart := false, narrowed := true }
def TileErasedUptoSaid : Prop := tileErasedUptoRow.holds Try.pinned (OpenSpec.upto tileErasedSpec)

/-- 'seepagelaw14.TileAlike', WHERE WHAT IT READS IS OF BULK AT MOST 1048576: true; the input reads as it did. -/
def tileAlikeUptoRow : OpenClaim := { program := "ytnmobjjinidmiaa", sum := "cc674ed62e719c0aa3db0d1186527b718b00b93df7046b44202e94504b3868c3", func := "seepage/seepagelaw14.TileAlike", spec := "tileAlike", apart := false, narrowed := true }
def TileAlikeUptoSaid : Prop := tileAlikeUptoRow.holds Try.pinned (OpenSpec.upto tileAlikeSpec)

/-- 'seepagelaw14.TileTells', WHERE WHAT IT READS IS OF BULK AT MOST 1048576: true; the input reads as it did. -/
def tileTellsUptoRow : OpenClaim := { program := "ytnmobjjinidmiaa", sum := "cc674ed62e719c0aa3db0d1186527b718b00b93df7046b44202e94504b3868c3", func := "seepage/seepagelaw14.TileTells", spec := "tileTells", apart := false, narrowed := true }
def TileTellsUptoSaid : Prop := tileTellsUptoRow.holds Try.pinned (OpenSpec.upto tileTellsSpec)

end Rows
end Go.Proofs.Ytnmobjjinidmiaa
