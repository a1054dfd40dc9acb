/-
  No cell of these rows narrows 'for every input' (looked for: loops, veiled, ifaces, maps, wideKeys, modest, calm, conditions, laid).
  DERIVED. THE GIVEN ROWS OF THIS SEAT. 5 by the template 'for every input the law returns true; each argument reads behind the call as it read before'; 0 by the template 'total and deterministic' (their statements: YtkicnomekojafaaTotals.lean).
  GIVEN WITH THE SEED: the statements are not yours to turn. If you find one false, say at which input.
  Laid BY PROGRAM, IN A SANDBOX (cutbox-rows.mjs): the forced cells as the released guide's own fill.sh prints them over the translation 2dc731125c489498… (all of the seat's roots in one cut). By AI agents, Wed Nov 11 2026. No macro, syntax, notation, axiom, sorry.
-/
import Derived.Test.YtkicnomekojafaaChecked
import GoSem.Claim
import GoSem.ClaimJoined
import GoSem.ClaimMapViews
import Derived.JoinedTies
import Derived.KernelRfl
namespace Go.Proofs.Ytkicnomekojafaa
/- THE CELL 'sum', in the pinned program and in every row, IS THE sha256 OF THE DUMP (.gsa) THAT YtkicnomekojafaaProg.lean LOADS. Nothing in Lean hashes anything: it is a label: what it is worth is what the hold of that sum in a sandbox is worth. -/
noncomputable def Try.pinned : Pinned := { name := "ytkicnomekojafaa", sum := "2dc731125c4894989f4f694bbf5a4ce8cd6841510c3be4608fad89f13647acb4", checked := Try.checked }
namespace Rows
def none {H : Type} : Left H := { results := [], args := [] }

/-- 'lighteragelaw01.HexaParts': WHATEVER THE INPUT: true; the input reads as it did. -/
def hexaPartsSpec : ChangeSpec := { name := "hexaParts", fn := fun _ => fun
  | [d1, d2] => { results := [.lit (.bool true)], args := [d1, d2] }
  | _ => none }
def hexaPartsRow : OpenClaim := { program := "ytkicnomekojafaa", sum := "2dc731125c4894989f4f694bbf5a4ce8cd6841510c3be4608fad89f13647acb4", func := "lighterage/lighteragelaw01.HexaParts", spec := "hexaParts", apart := false }
def HexaPartsSaid : Prop := hexaPartsRow.holds Try.pinned (OpenSpec.ofChange hexaPartsSpec)

/-- ITS FALSE NEIGHBOUR: 'it returns false'. Refute it at one input. -/
def hexaPartsWrong : ChangeSpec := { name := "hexaParts", fn := fun _ => fun
  | [d1, d2] => { results := [.lit (.bool false)], args := [d1, d2] }
  | _ => none }
def HexaPartsWrongFalsely : Prop := hexaPartsRow.holds Try.pinned (OpenSpec.ofChange hexaPartsWrong)

/-- 'lighteragelaw01.HexaRow': WHATEVER THE INPUT: true; the input reads as it did. -/
def hexaRowSpec : ChangeSpec := { name := "hexaRow", fn := fun _ => fun
  | [d1, d2, d3, d4] => { results := [.lit (.bool true)], args := [d1, d2, d3, d4] }
  | _ => none }
def hexaRowRow : OpenClaim := { program := "ytkicnomekojafaa", sum := "2dc731125c4894989f4f694bbf5a4ce8cd6841510c3be4608fad89f13647acb4", func := "lighterage/lighteragelaw01.HexaRow", spec := "hexaRow", inPlace := ["internal/bytealg.Compare"], apart := false }
def HexaRowSaid : Prop := hexaRowRow.holds Try.pinned (OpenSpec.ofChange hexaRowSpec)

/-- ITS FALSE NEIGHBOUR: 'it returns false'. Refute it at one input. -/
def hexaRowWrong : ChangeSpec := { name := "hexaRow", fn := fun _ => fun
  | [d1, d2, d3, d4] => { results := [.lit (.bool false)], args := [d1, d2, d3, d4] }
  | _ => none }
def HexaRowWrongFalsely : Prop := hexaRowRow.holds Try.pinned (OpenSpec.ofChange hexaRowWrong)

/-- 'lighteragelaw01.HexaTexts': WHATEVER THE INPUT: true; the input reads as it did. -/
def hexaTextsSpec : ChangeSpec := { name := "hexaTexts", fn := fun _ => fun
  | [d] => { results := [.lit (.bool true)], args := [d] }
  | _ => none }
def hexaTextsRow : OpenClaim := { program := "ytkicnomekojafaa", sum := "2dc731125c4894989f4f694bbf5a4ce8cd6841510c3be4608fad89f13647acb4", func := "lighterage/lighteragelaw01.HexaTexts", spec := "hexaTexts", inPlace := ["internal/bytealg.IndexByteString"], apart := false }
def HexaTextsSaid : Prop := hexaTextsRow.holds Try.pinned (OpenSpec.ofChange hexaTextsSpec)

/-- ITS FALSE NEIGHBOUR: 'it returns false'. Refute it at one input. -/
def hexaTextsWrong : ChangeSpec := { name := "hexaTexts", fn := fun _ => fun
  | [d] => { results := [.lit (.bool false)], args := [d] }
  | _ => none }
def HexaTextsWrongFalsely : Prop := hexaTextsRow.holds Try.pinned (OpenSpec.ofChange hexaTextsWrong)

/-- 'lighteragelaw01.HexaParses': WHATEVER THE INPUT: true; the input reads as it did. -/
def hexaParsesSpec : ChangeSpec := { name := "hexaParses", fn := fun _ => fun
  | [d1, d2, d3, d4] => { results := [.lit (.bool true)], args := [d1, d2, d3, d4] }
  | _ => none }
def hexaParsesRow : OpenClaim := { program := "ytkicnomekojafaa", sum := "2dc731125c4894989f4f694bbf5a4ce8cd6841510c3be4608fad89f13647acb4", func := "lighterage/lighteragelaw01.HexaParses", spec := "hexaParses", inPlace := ["internal/bytealg.IndexByteString"], apart := false }
def HexaParsesSaid : Prop := hexaParsesRow.holds Try.pinned (OpenSpec.ofChange hexaParsesSpec)

/-- ITS FALSE NEIGHBOUR: 'it returns false'. Refute it at one input. -/
def hexaParsesWrong : ChangeSpec := { name := "hexaParses", fn := fun _ => fun
  | [d1, d2, d3, d4] => { results := [.lit (.bool false)], args := [d1, d2, d3, d4] }
  | _ => none }
def HexaParsesWrongFalsely : Prop := hexaParsesRow.holds Try.pinned (OpenSpec.ofChange hexaParsesWrong)

/-- 'lighteragelaw01.HexaDigests': WHATEVER THE INPUT: true; the input reads as it did. -/
def hexaDigestsSpec : ChangeSpec := { name := "hexaDigests", fn := fun _ => fun
  | [d1, d2, d3] => { results := [.lit (.bool true)], args := [d1, d2, d3] }
  | _ => none }
def hexaDigestsRow : OpenClaim := { program := "ytkicnomekojafaa", sum := "2dc731125c4894989f4f694bbf5a4ce8cd6841510c3be4608fad89f13647acb4", func := "lighterage/lighteragelaw01.HexaDigests", spec := "hexaDigests", inPlace := ["internal/bytealg.IndexByteString", "internal/reflectlite.TypeOf"], unfollowed := true, recurses := true, apart := false }
def HexaDigestsSaid : Prop := hexaDigestsRow.holds Try.pinned (OpenSpec.ofChange hexaDigestsSpec)

/-- ITS FALSE NEIGHBOUR: 'it returns false'. Refute it at one input. -/
def hexaDigestsWrong : ChangeSpec := { name := "hexaDigests", fn := fun _ => fun
  | [d1, d2, d3] => { results := [.lit (.bool false)], args := [d1, d2, d3] }
  | _ => none }
def HexaDigestsWrongFalsely : Prop := hexaDigestsRow.holds Try.pinned (OpenSpec.ofChange hexaDigestsWrong)

/- THE SECOND FORM. 'bulk': how many values and letters a reading holds, each counted each time it is reached (what is shared counts as often as it is met; a slice's spare places count too). A statement '..UptoSaid' is the law's where the arguments, and the package variables that the reading takes, are together of bulk at most 1048576: NARROWER than '..Said'. Prove '..Said' where nothing that the law and all that it calls make is longer than what came in: it says more and counts as full. Else prove '..UptoSaid'. A law counts once. -/
mutual
def uptoBulk {H : Type} : DataW H → Nat
  | .lit (.string bytes) => bytes.length + 1
  | .lit _ => 1
  | .nil => 1
  | .ptr d => uptoBulk d + 1
  | .slice elems spare => uptoBulkAll elems + uptoBulkAll spare + 1
  | .agg parts => uptoBulkAll parts + 1
  | .iface _ d => uptoBulk d + 1
  | .map entries => uptoBulkEntries entries + 1
  | .held _ => 1
def uptoBulkAll {H : Type} : List (DataW H) → Nat
  | [] => 0
  | d :: r => uptoBulk d + uptoBulkAll r
def uptoBulkEntries {H : Type} : List (Lit × DataW H) → Nat
  | [] => 0
  | x :: r => uptoBulkEntry x + uptoBulkEntries r
def uptoBulkEntry {H : Type} : Lit × DataW H → Nat
  | (.string bytes, d) => bytes.length + uptoBulk d + 1
  | (_, d) => uptoBulk d + 1
 end
def uptoSmall : (H : Type) → List (DataW H) → Bool := fun _ ds => decide (uptoBulkAll ds ≤ 1048576)
def OpenSpec.upto (s : _root_.Go.ChangeSpec) : _root_.Go.OpenSpec := { _root_.Go.OpenSpec.ofChange s with cond := some uptoSmall }

/-- 'lighteragelaw01.HexaParts', WHERE WHAT IT READS IS OF BULK AT MOST 1048576: true; the input reads as it did. -/
def hexaPartsUptoRow : OpenClaim := { program := "ytkicnomekojafaa", sum := "2dc731125c4894989f4f694bbf5a4ce8cd6841510c3be4608fad89f13647acb4", func := "lighterage/lighteragelaw01.HexaParts", spec := "hexaParts", apart := false, narrowed := true }
def HexaPartsUptoSaid : Prop := hexaPartsUptoRow.holds Try.pinned (OpenSpec.upto hexaPartsSpec)

/-- 'lighteragelaw01.HexaRow', WHERE WHAT IT READS IS OF BULK AT MOST 1048576: true; the input reads as it did. -/
def hexaRowUptoRow : OpenClaim := { program := "ytkicnomekojafaa", sum := "2dc731125c4894989f4f694bbf5a4ce8cd6841510c3be4608fad89f13647acb4", func := "lighterage/lighteragelaw01.HexaRow", spec := "hexaRow", inPlace := ["internal/bytealg.Compare"], apart := false, narrowed := true }
def HexaRowUptoSaid : Prop := hexaRowUptoRow.holds Try.pinned (OpenSpec.upto hexaRowSpec)

/-- 'lighteragelaw01.HexaTexts', WHERE WHAT IT READS IS OF BULK AT MOST 1048576: true; the input reads as it did. -/
def hexaTextsUptoRow : OpenClaim := { program := "ytkicnomekojafaa", sum := "2dc731125c4894989f4f694bbf5a4ce8cd6841510c3be4608fad89f13647acb4", func := "lighterage/lighteragelaw01.HexaTexts", spec := "hexaTexts", inPlace := ["internal/bytealg.IndexByteString"], apart := false, narrowed := true }
def HexaTextsUptoSaid : Prop := hexaTextsUptoRow.holds Try.pinned (OpenSpec.upto hexaTextsSpec)

/-- 'lighteragelaw01.HexaParses', WHERE WHAT IT READS IS OF BULK AT MOST 1048576: true; the input reads as it did. -/
def hexaParsesUptoRow : OpenClaim := { program := "ytkicnomekojafaa", sum := "2dc731125c4894989f4f694bbf5a4ce8cd6841510c3be4608fad89f13647acb4", func := "lighterage/lighteragelaw01.HexaParses", spec := "hexaParses", inPlace := ["internal/bytealg.IndexByteString"], apart := false, narrowed := true }
def HexaParsesUptoSaid : Prop := hexaParsesUptoRow.holds Try.pinned (OpenSpec.upto hexaParsesSpec)

/-- 'lighteragelaw01.HexaDigests', WHERE WHAT IT READS IS OF BULK AT MOST 1048576: true; the input reads as it did. -/
def hexaDigestsUptoRow : OpenClaim := { program := "ytkicnomekojafaa", sum := "2dc731125c4894989f4f694bbf5a4ce8cd6841510c3be4608fad89f13647acb4", func := "lighterage/lighteragelaw01.HexaDigests", spec := "hexaDigests", inPlace := ["internal/bytealg.IndexByteString", "internal/reflectlite.TypeOf"], unfollowed := true, recurses := true, apart := false, narrowed := true }
def HexaDigestsUptoSaid : Prop := hexaDigestsUptoRow.holds Try.pinned (OpenSpec.upto hexaDigestsSpec)

end Rows
end Go.Proofs.Ytkicnomekojafaa
