/-
  No cell of these rows narrows 'for every input' (looked for: loops, veiled, ifaces, maps, wideKeys, modest, calm, conditions, laid).
  DERIVED. THE GIVEN ROWS OF THIS SEAT. 5 by the template 'for every input the law returns true; each argument reads behind the call as it read before'; 0 by the template 'total and deterministic' (their statements: YtleggfpcgdpoaaaTotals.lean).
  GIVEN WITH THE SEED: the statements are not yours to turn. If you find one false, say at which input.
  Laid BY PROGRAM, IN A SANDBOX (cutbox-rows.mjs): the forced cells as the released guide's own fill.sh prints them over the translation 8a384db03f93592e… (all of the seat's roots in one cut). By AI agents, Wed Nov 11 2026. No macro, syntax, notation, axiom, sorry.
-/
import Derived.Test.YtleggfpcgdpoaaaChecked
import GoSem.Claim
import GoSem.ClaimJoined
import GoSem.ClaimMapViews
import Derived.JoinedTies
import Derived.KernelRfl
namespace Go.Proofs.Ytleggfpcgdpoaaa
/- THE CELL 'sum', in the pinned program and in every row, IS THE sha256 OF THE DUMP (.gsa) THAT YtleggfpcgdpoaaaProg.lean LOADS. Nothing in Lean hashes anything: it is a label: what it is worth is what the hold of that sum in a sandbox is worth. -/
noncomputable def Try.pinned : Pinned := { name := "ytleggfpcgdpoaaa", sum := "8a384db03f93592ead7398b413d75b3b4635ba1a846933b127147ffbb0af7f2f", checked := Try.checked }
namespace Rows
def none {H : Type} : Left H := { results := [], args := [] }

/-- 'seepagelaw12.ScrollWrites': WHATEVER THE INPUT: true; the input reads as it did. -/
def scrollWritesSpec : ChangeSpec := { name := "scrollWrites", fn := fun _ => fun
  | [d1, d2] => { results := [.lit (.bool true)], args := [d1, d2] }
  | _ => none }
def scrollWritesRow : OpenClaim := { program := "ytleggfpcgdpoaaa", sum := "8a384db03f93592ead7398b413d75b3b4635ba1a846933b127147ffbb0af7f2f", func := "seepage/seepagelaw12.ScrollWrites", spec := "scrollWrites", unfollowed := true, recurses := true, apart := false }
def ScrollWritesSaid : Prop := scrollWritesRow.holds Try.pinned (OpenSpec.ofChange scrollWritesSpec)

/-- ITS FALSE NEIGHBOUR: 'it returns false'. Refute it at one input. -/
def scrollWritesWrong : ChangeSpec := { name := "scrollWrites", fn := fun _ => fun
  | [d1, d2] => { results := [.lit (.bool false)], args := [d1, d2] }
  | _ => none }
def ScrollWritesWrongFalsely : Prop := scrollWritesRow.holds Try.pinned (OpenSpec.ofChange scrollWritesWrong)

/-- 'seepagelaw12.ScrollAround': WHATEVER THE INPUT: true; the input reads as it did. -/
def scrollAroundSpec : ChangeSpec := { name := "scrollAround", fn := fun _ => fun
  | [d] => { results := [.lit (.bool true)], args := [d] }
  | _ => none }
def scrollAroundRow : OpenClaim := { program := "ytleggfpcgdpoaaa", sum := "8a384db03f93592ead7398b413d75b3b4635ba1a846933b127147ffbb0af7f2f", func := "seepage/seepagelaw12.ScrollAround", spec := "scrollAround", unfollowed := true, recurses := true, apart := false }
def ScrollAroundSaid : Prop := scrollAroundRow.holds Try.pinned (OpenSpec.ofChange scrollAroundSpec)

/-- ITS FALSE NEIGHBOUR: 'it returns false'. Refute it at one input. -/
def scrollAroundWrong : ChangeSpec := { name := "scrollAround", fn := fun _ => fun
  | [d] => { results := [.lit (.bool false)], args := [d] }
  | _ => none }
def ScrollAroundWrongFalsely : Prop := scrollAroundRow.holds Try.pinned (OpenSpec.ofChange scrollAroundWrong)

/-- 'seepagelaw12.ScrollApart': WHATEVER THE INPUT: true; the input reads as it did. -/
def scrollApartSpec : ChangeSpec := { name := "scrollApart", fn := fun _ => fun
  | [d] => { results := [.lit (.bool true)], args := [d] }
  | _ => none }
def scrollApartRow : OpenClaim := { program := "ytleggfpcgdpoaaa", sum := "8a384db03f93592ead7398b413d75b3b4635ba1a846933b127147ffbb0af7f2f", func := "seepage/seepagelaw12.ScrollApart", spec := "scrollApart", unfollowed := true, recurses := true, apart := false }
def ScrollApartSaid : Prop := scrollApartRow.holds Try.pinned (OpenSpec.ofChange scrollApartSpec)

/-- ITS FALSE NEIGHBOUR: 'it returns false'. Refute it at one input. -/
def scrollApartWrong : ChangeSpec := { name := "scrollApart", fn := fun _ => fun
  | [d] => { results := [.lit (.bool false)], args := [d] }
  | _ => none }
def ScrollApartWrongFalsely : Prop := scrollApartRow.holds Try.pinned (OpenSpec.ofChange scrollApartWrong)

/-- 'seepagelaw12.ScrollTells': WHATEVER THE INPUT: true; the input reads as it did. -/
def scrollTellsSpec : ChangeSpec := { name := "scrollTells", fn := fun _ => fun
  | [d1, d2, d3] => { results := [.lit (.bool true)], args := [d1, d2, d3] }
  | _ => none }
def scrollTellsRow : OpenClaim := { program := "ytleggfpcgdpoaaa", sum := "8a384db03f93592ead7398b413d75b3b4635ba1a846933b127147ffbb0af7f2f", func := "seepage/seepagelaw12.ScrollTells", spec := "scrollTells", unfollowed := true, recurses := true, apart := false }
def ScrollTellsSaid : Prop := scrollTellsRow.holds Try.pinned (OpenSpec.ofChange scrollTellsSpec)

/-- ITS FALSE NEIGHBOUR: 'it returns false'. Refute it at one input. -/
def scrollTellsWrong : ChangeSpec := { name := "scrollTells", fn := fun _ => fun
  | [d1, d2, d3] => { results := [.lit (.bool false)], args := [d1, d2, d3] }
  | _ => none }
def ScrollTellsWrongFalsely : Prop := scrollTellsRow.holds Try.pinned (OpenSpec.ofChange scrollTellsWrong)

/-- 'seepagelaw12.ScrollStays': WHATEVER THE INPUT: true; the input reads as it did. -/
def scrollStaysSpec : ChangeSpec := { name := "scrollStays", fn := fun _ => fun
  | [d1, d2] => { results := [.lit (.bool true)], args := [d1, d2] }
  | _ => none }
def scrollStaysRow : OpenClaim := { program := "ytleggfpcgdpoaaa", sum := "8a384db03f93592ead7398b413d75b3b4635ba1a846933b127147ffbb0af7f2f", func := "seepage/seepagelaw12.ScrollStays", spec := "scrollStays", unfollowed := true, recurses := true, apart := false }
def ScrollStaysSaid : Prop := scrollStaysRow.holds Try.pinned (OpenSpec.ofChange scrollStaysSpec)

/-- ITS FALSE NEIGHBOUR: 'it returns false'. Refute it at one input. -/
def scrollStaysWrong : ChangeSpec := { name := "scrollStays", fn := fun _ => fun
  | [d1, d2] => { results := [.lit (.bool false)], args := [d1, d2] }
  | _ => none }
def ScrollStaysWrongFalsely : Prop := scrollStaysRow.holds Try.pinned (OpenSpec.ofChange scrollStaysWrong)

/- THE SECOND FORM. 'bulk': how many values and letters a reading holds, each counted each time it is reached (what is shared counts as often as it is met; a slice's spare places count too). A statement '..UptoSaid' is the law's where the arguments, and the package variables that the reading takes, are together of bulk at most 1048576: NARROWER than '..Said'. Prove '..Said' where nothing that the law and all that it calls make is longer than what came in: it says more and counts as full. Else prove '..UptoSaid'. A law counts once. -/
mutual
def uptoBulk {H : Type} : DataW H → Nat
  | .lit (.string bytes) => bytes.length + 1
  | .lit _ => 1
  | .nil => 1
  | .ptr d => uptoBulk d + 1
  | .slice elems spare => uptoBulkAll elems + uptoBulkAll spare + 1
  | .agg parts => uptoBulkAll parts + 1
  | .iface _ d => uptoBulk d + 1
  | .map entries => uptoBulkEntries entries + 1
  | .held _ => 1
def uptoBulkAll {H : Type} : List (DataW H) → Nat
  | [] => 0
  | d :: r => uptoBulk d + uptoBulkAll r
def uptoBulkEntries {H : Type} : List (Lit × DataW H) → Nat
  | [] => 0
  | x :: r => uptoBulkEntry x + uptoBulkEntries r
def uptoBulkEntry {H : Type} : Lit × DataW H → Nat
  | (.string bytes, d) => bytes.length + uptoBulk d + 1
  | (_, d) => uptoBulk d + 1
 end
def uptoSmall : (H : Type) → List (DataW H) → Bool := fun _ ds => decide (uptoBulkAll ds ≤ 1048576)
def OpenSpec.upto (s : _root_.Go.ChangeSpec) : _root_.Go.OpenSpec := { _root_.Go.OpenSpec.ofChange s with cond := some uptoSmall }

/-- 'seepagelaw12.ScrollWrites', WHERE WHAT IT READS IS OF BULK AT MOST 1048576: true; the input reads as it did. -/
def scrollWritesUptoRow : OpenClaim := { program := "ytleggfpcgdpoaaa", sum := "8a384db03f93592ead7398b413d75b3b4635ba1a846933b127147ffbb0af7f2f", func := "seepage/seepagelaw12.ScrollWrites", spec := "scrollWrites", unfollowed := true, recurses := true, apart := false, narrowed := true }
def ScrollWritesUptoSaid : Prop := scrollWritesUptoRow.holds Try.pinned (OpenSpec.upto scrollWritesSpec)

/-- 'seepagelaw12.ScrollAround', WHERE WHAT IT READS IS OF BULK AT MOST 1048576: true; the input reads as it did. -/
def scrollAroundUptoRow : OpenClaim := { program := "ytleggfpcgdpoaaa", sum := "8a384db03f93592ead7398b413d75b3b4635ba1a846933b127147ffbb0af7f2f", func := "seepage/seepagelaw12.ScrollAround", spec := "scrollAround", unfollowed := true, recurses := true, apart := false, narrowed := true }
def ScrollAroundUptoSaid : Prop := scrollAroundUptoRow.holds Try.pinned (OpenSpec.upto scrollAroundSpec)

/-- 'seepagelaw12.ScrollApart', WHERE WHAT IT READS IS OF BULK AT MOST 1048576: true; the input reads as it did. -/
def scrollApartUptoRow : OpenClaim := { program := "ytleggfpcgdpoaaa", sum := "8a384db03f93592ead7398b413d75b3b4635ba1a846933b127147ffbb0af7f2f", func := "seepage/seepagelaw12.ScrollApart", spec := "scrollApart", unfollowed := true, recurses := true, apart := false, narrowed := true }
def ScrollApartUptoSaid : Prop := scrollApartUptoRow.holds Try.pinned (OpenSpec.upto scrollApartSpec)

/-- 'seepagelaw12.ScrollTells', WHERE WHAT IT READS IS OF BULK AT MOST 1048576: true; the input reads as it did. -/
def scrollTellsUptoRow : OpenClaim := { program := "ytleggfpcgdpoaaa", sum := "8a384db03f93592ead7398b413d75b3b4635ba1a846933b127147ffbb0af7f2f", func := "seepage/seepagelaw12.ScrollTells", spec := "scrollTells", unfollowed := true, recurses := true, apart := false, narrowed := true }
def ScrollTellsUptoSaid : Prop := scrollTellsUptoRow.holds Try.pinned (OpenSpec.upto scrollTellsSpec)

/-- 'seepagelaw12.ScrollStays', WHERE WHAT IT READS IS OF BULK AT MOST 1048576: true; the input reads as it did. -/
def scrollStaysUptoRow : OpenClaim := { program := "ytleggfpcgdpoaaa", sum := "8a384db03f93592ead7398b413d75b3b4635ba1a846933b127147ffbb0af7f2f", func := "seepage/seepagelaw12.ScrollStays", spec := "scrollStays", unfollowed := true, recurses := true, apart := false, narrowed := true }
def ScrollStaysUptoSaid : Prop := scrollStaysUptoRow.holds Try.pinned (OpenSpec.upto scrollStaysSpec)

end Rows
end Go.Proofs.Ytleggfpcgdpoaaa
