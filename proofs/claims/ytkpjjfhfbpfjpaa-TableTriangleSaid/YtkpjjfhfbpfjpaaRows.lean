/-
  NARROWER THAN 'FOR EVERY INPUT', by the rows' own cells (each row's printed sentence says how): ShardOf: loops.
  DERIVED. THE GIVEN ROWS OF THIS SEAT. 8 by the template 'for every input the law returns true; each argument reads behind the call as it read before'; 0 by the template 'total and deterministic' (their statements: YtkpjjfhfbpfjpaaTotals.lean).
  GIVEN WITH THE SEED: the statements are not yours to turn. If you find one false, say at which input.
  Laid BY PROGRAM, IN A SANDBOX (cutbox-rows.mjs): the forced cells as the released guide's own fill.sh prints them over the translation 9a8f4a02f235607b… (all of the seat's roots in one cut). By AI agents, Wed Nov 11 2026. No macro, syntax, notation, axiom, sorry.
-/
import Derived.Test.YtkpjjfhfbpfjpaaChecked
import GoSem.Claim
import GoSem.ClaimJoined
import GoSem.ClaimMapViews
import Derived.JoinedTies
import Derived.KernelRfl
namespace Go.Proofs.Ytkpjjfhfbpfjpaa
/- THE CELL 'sum', in the pinned program and in every row, IS THE sha256 OF THE DUMP (.gsa) THAT YtkpjjfhfbpfjpaaProg.lean LOADS. Nothing in Lean hashes anything: it is a label: what it is worth is what the hold of that sum in a sandbox is worth. -/
noncomputable def Try.pinned : Pinned := { name := "ytkpjjfhfbpfjpaa", sum := "9a8f4a02f235607b6a8f2d35cceed8efabf59bc1b5a1490910b7f9575c770549", checked := Try.checked }
namespace Rows
def none {H : Type} : Left H := { results := [], args := [] }

/-- 'partsynclaw24.ShardOf': WHATEVER THE INPUT: true; the input reads as it did. -/
def shardOfSpec : ChangeSpec := { name := "shardOf", fn := fun _ => fun
  | [d1, d2, d3, d4, d5] => { results := [.lit (.bool true)], args := [d1, d2, d3, d4, d5] }
  | _ => none }
def shardOfRow : OpenClaim := { program := "ytkpjjfhfbpfjpaa", sum := "9a8f4a02f235607b6a8f2d35cceed8efabf59bc1b5a1490910b7f9575c770549", func := "partsync/partsynclaw24.ShardOf", spec := "shardOf", inPlace := ["internal/bytealg.abigen_runtime_cmpstring"], unfollowed := true, recurses := true, loops := true, apart := false }
def ShardOfSaid : Prop := shardOfRow.holds Try.pinned (OpenSpec.ofChange shardOfSpec)

/-- ITS FALSE NEIGHBOUR: 'it returns false'. Refute it at one input. -/
def shardOfWrong : ChangeSpec := { name := "shardOf", fn := fun _ => fun
  | [d1, d2, d3, d4, d5] => { results := [.lit (.bool false)], args := [d1, d2, d3, d4, d5] }
  | _ => none }
def ShardOfWrongFalsely : Prop := shardOfRow.holds Try.pinned (OpenSpec.ofChange shardOfWrong)

/-- 'partsynclaw08.TableFills': WHATEVER THE INPUT: true; the input reads as it did. -/
def tableFillsSpec : ChangeSpec := { name := "tableFills", fn := fun _ => fun
  | [d] => { results := [.lit (.bool true)], args := [d] }
  | _ => none }
def tableFillsRow : OpenClaim := { program := "ytkpjjfhfbpfjpaa", sum := "9a8f4a02f235607b6a8f2d35cceed8efabf59bc1b5a1490910b7f9575c770549", func := "partsync/partsynclaw08.TableFills", spec := "tableFills", inPlace := ["internal/bytealg.abigen_runtime_cmpstring"], unfollowed := true, recurses := true, apart := false }
def TableFillsSaid : Prop := tableFillsRow.holds Try.pinned (OpenSpec.ofChange tableFillsSpec)

/-- ITS FALSE NEIGHBOUR: 'it returns false'. Refute it at one input. -/
def tableFillsWrong : ChangeSpec := { name := "tableFills", fn := fun _ => fun
  | [d] => { results := [.lit (.bool false)], args := [d] }
  | _ => none }
def TableFillsWrongFalsely : Prop := tableFillsRow.holds Try.pinned (OpenSpec.ofChange tableFillsWrong)

/-- 'partsynclaw08.TableInverts': WHATEVER THE INPUT: true; the input reads as it did. -/
def tableInvertsSpec : ChangeSpec := { name := "tableInverts", fn := fun _ => fun
  | [d1, d2] => { results := [.lit (.bool true)], args := [d1, d2] }
  | _ => none }
def tableInvertsRow : OpenClaim := { program := "ytkpjjfhfbpfjpaa", sum := "9a8f4a02f235607b6a8f2d35cceed8efabf59bc1b5a1490910b7f9575c770549", func := "partsync/partsynclaw08.TableInverts", spec := "tableInverts", inPlace := ["internal/bytealg.abigen_runtime_cmpstring"], unfollowed := true, recurses := true, apart := false }
def TableInvertsSaid : Prop := tableInvertsRow.holds Try.pinned (OpenSpec.ofChange tableInvertsSpec)

/-- ITS FALSE NEIGHBOUR: 'it returns false'. Refute it at one input. -/
def tableInvertsWrong : ChangeSpec := { name := "tableInverts", fn := fun _ => fun
  | [d1, d2] => { results := [.lit (.bool false)], args := [d1, d2] }
  | _ => none }
def TableInvertsWrongFalsely : Prop := tableInvertsRow.holds Try.pinned (OpenSpec.ofChange tableInvertsWrong)

/-- 'partsynclaw08.TableFresh': WHATEVER THE INPUT: true; the input reads as it did. -/
def tableFreshSpec : ChangeSpec := { name := "tableFresh", fn := fun _ => fun
  | [d] => { results := [.lit (.bool true)], args := [d] }
  | _ => none }
def tableFreshRow : OpenClaim := { program := "ytkpjjfhfbpfjpaa", sum := "9a8f4a02f235607b6a8f2d35cceed8efabf59bc1b5a1490910b7f9575c770549", func := "partsync/partsynclaw08.TableFresh", spec := "tableFresh", inPlace := ["internal/bytealg.abigen_runtime_cmpstring"], unfollowed := true, recurses := true, apart := false }
def TableFreshSaid : Prop := tableFreshRow.holds Try.pinned (OpenSpec.ofChange tableFreshSpec)

/-- ITS FALSE NEIGHBOUR: 'it returns false'. Refute it at one input. -/
def tableFreshWrong : ChangeSpec := { name := "tableFresh", fn := fun _ => fun
  | [d] => { results := [.lit (.bool false)], args := [d] }
  | _ => none }
def TableFreshWrongFalsely : Prop := tableFreshRow.holds Try.pinned (OpenSpec.ofChange tableFreshWrong)

/-- 'partsynclaw08.TableGets': WHATEVER THE INPUT: true; the input reads as it did. -/
def tableGetsSpec : ChangeSpec := { name := "tableGets", fn := fun _ => fun
  | [d1, d2, d3, d4] => { results := [.lit (.bool true)], args := [d1, d2, d3, d4] }
  | _ => none }
def tableGetsRow : OpenClaim := { program := "ytkpjjfhfbpfjpaa", sum := "9a8f4a02f235607b6a8f2d35cceed8efabf59bc1b5a1490910b7f9575c770549", func := "partsync/partsynclaw08.TableGets", spec := "tableGets", inPlace := ["internal/bytealg.abigen_runtime_cmpstring"], unfollowed := true, recurses := true, apart := false }
def TableGetsSaid : Prop := tableGetsRow.holds Try.pinned (OpenSpec.ofChange tableGetsSpec)

/-- ITS FALSE NEIGHBOUR: 'it returns false'. Refute it at one input. -/
def tableGetsWrong : ChangeSpec := { name := "tableGets", fn := fun _ => fun
  | [d1, d2, d3, d4] => { results := [.lit (.bool false)], args := [d1, d2, d3, d4] }
  | _ => none }
def TableGetsWrongFalsely : Prop := tableGetsRow.holds Try.pinned (OpenSpec.ofChange tableGetsWrong)

/-- 'partsynclaw08.TableNetsApply': WHATEVER THE INPUT: true; the input reads as it did. -/
def tableNetsApplySpec : ChangeSpec := { name := "tableNetsApply", fn := fun _ => fun
  | [d] => { results := [.lit (.bool true)], args := [d] }
  | _ => none }
def tableNetsApplyRow : OpenClaim := { program := "ytkpjjfhfbpfjpaa", sum := "9a8f4a02f235607b6a8f2d35cceed8efabf59bc1b5a1490910b7f9575c770549", func := "partsync/partsynclaw08.TableNetsApply", spec := "tableNetsApply", inPlace := ["internal/bytealg.abigen_runtime_cmpstring"], unfollowed := true, recurses := true, apart := false }
def TableNetsApplySaid : Prop := tableNetsApplyRow.holds Try.pinned (OpenSpec.ofChange tableNetsApplySpec)

/-- ITS FALSE NEIGHBOUR: 'it returns false'. Refute it at one input. -/
def tableNetsApplyWrong : ChangeSpec := { name := "tableNetsApply", fn := fun _ => fun
  | [d] => { results := [.lit (.bool false)], args := [d] }
  | _ => none }
def TableNetsApplyWrongFalsely : Prop := tableNetsApplyRow.holds Try.pinned (OpenSpec.ofChange tableNetsApplyWrong)

/-- 'partsynclaw08.TableTriangle': WHATEVER THE INPUT: true; the input reads as it did. -/
def tableTriangleSpec : ChangeSpec := { name := "tableTriangle", fn := fun _ => fun
  | [d] => { results := [.lit (.bool true)], args := [d] }
  | _ => none }
def tableTriangleRow : OpenClaim := { program := "ytkpjjfhfbpfjpaa", sum := "9a8f4a02f235607b6a8f2d35cceed8efabf59bc1b5a1490910b7f9575c770549", func := "partsync/partsynclaw08.TableTriangle", spec := "tableTriangle", inPlace := ["internal/bytealg.abigen_runtime_cmpstring"], unfollowed := true, recurses := true, apart := false }
def TableTriangleSaid : Prop := tableTriangleRow.holds Try.pinned (OpenSpec.ofChange tableTriangleSpec)

/-- ITS FALSE NEIGHBOUR: 'it returns false'. Refute it at one input. -/
def tableTriangleWrong : ChangeSpec := { name := "tableTriangle", fn := fun _ => fun
  | [d] => { results := [.lit (.bool false)], args := [d] }
  | _ => none }
def TableTriangleWrongFalsely : Prop := tableTriangleRow.holds Try.pinned (OpenSpec.ofChange tableTriangleWrong)

/-- 'partsynclaw24.ShardFew': WHATEVER THE INPUT: true; the input reads as it did. -/
def shardFewSpec : ChangeSpec := { name := "shardFew", fn := fun _ => fun
  | [d] => { results := [.lit (.bool true)], args := [d] }
  | _ => none }
def shardFewRow : OpenClaim := { program := "ytkpjjfhfbpfjpaa", sum := "9a8f4a02f235607b6a8f2d35cceed8efabf59bc1b5a1490910b7f9575c770549", func := "partsync/partsynclaw24.ShardFew", spec := "shardFew", inPlace := ["internal/bytealg.abigen_runtime_cmpstring"], unfollowed := true, recurses := true, apart := false }
def ShardFewSaid : Prop := shardFewRow.holds Try.pinned (OpenSpec.ofChange shardFewSpec)

/-- ITS FALSE NEIGHBOUR: 'it returns false'. Refute it at one input. -/
def shardFewWrong : ChangeSpec := { name := "shardFew", fn := fun _ => fun
  | [d] => { results := [.lit (.bool false)], args := [d] }
  | _ => none }
def ShardFewWrongFalsely : Prop := shardFewRow.holds Try.pinned (OpenSpec.ofChange shardFewWrong)

/- THE SECOND FORM. 'bulk': how many values and letters a reading holds, each counted each time it is reached (what is shared counts as often as it is met; a slice's spare places count too). A statement '..UptoSaid' is the law's where the arguments, and the package variables that the reading takes, are together of bulk at most 1048576: NARROWER than '..Said'. Prove '..Said' where nothing that the law and all that it calls make is longer than what came in: it says more and counts as full. Else prove '..UptoSaid'. A law counts once. -/
mutual
def uptoBulk {H : Type} : DataW H → Nat
  | .lit (.string bytes) => bytes.length + 1
  | .lit _ => 1
  | .nil => 1
  | .ptr d => uptoBulk d + 1
  | .slice elems spare => uptoBulkAll elems + uptoBulkAll spare + 1
  | .agg parts => uptoBulkAll parts + 1
  | .iface _ d => uptoBulk d + 1
  | .map entries => uptoBulkEntries entries + 1
  | .held _ => 1
def uptoBulkAll {H : Type} : List (DataW H) → Nat
  | [] => 0
  | d :: r => uptoBulk d + uptoBulkAll r
def uptoBulkEntries {H : Type} : List (Lit × DataW H) → Nat
  | [] => 0
  | x :: r => uptoBulkEntry x + uptoBulkEntries r
def uptoBulkEntry {H : Type} : Lit × DataW H → Nat
  | (.string bytes, d) => bytes.length + uptoBulk d + 1
  | (_, d) => uptoBulk d + 1
 end
def uptoSmall : (H : Type) → List (DataW H) → Bool := fun _ ds => decide (uptoBulkAll ds ≤ 1048576)
def OpenSpec.upto (s : _root_.Go.ChangeSpec) : _root_.Go.OpenSpec := { _root_.Go.OpenSpec.ofChange s with cond := some uptoSmall }

/-- 'partsynclaw24.ShardOf', WHERE WHAT IT READS IS OF BULK AT MOST 1048576: true; the input reads as it did. -/
def shardOfUptoRow : OpenClaim := { program := "ytkpjjfhfbpfjpaa", sum := "9a8f4a02f235607b6a8f2d35cceed8efabf59bc1b5a1490910b7f9575c770549", func := "partsync/partsynclaw24.ShardOf", spec := "shardOf", inPlace := ["internal/bytealg.abigen_runtime_cmpstring"], unfollowed := true, recurses := true, loops := true, apart := false, narrowed := true }
def ShardOfUptoSaid : Prop := shardOfUptoRow.holds Try.pinned (OpenSpec.upto shardOfSpec)

/-- 'partsynclaw08.TableFills', WHERE WHAT IT READS IS OF BULK AT MOST 1048576: true; the input reads as it did. -/
def tableFillsUptoRow : OpenClaim := { program := "ytkpjjfhfbpfjpaa", sum := "9a8f4a02f235607b6a8f2d35cceed8efabf59bc1b5a1490910b7f9575c770549", func := "partsync/partsynclaw08.TableFills", spec := "tableFills", inPlace := ["internal/bytealg.abigen_runtime_cmpstring"], unfollowed := true, recurses := true, apart := false, narrowed := true }
def TableFillsUptoSaid : Prop := tableFillsUptoRow.holds Try.pinned (OpenSpec.upto tableFillsSpec)

/-- 'partsynclaw08.TableInverts', WHERE WHAT IT READS IS OF BULK AT MOST 1048576: true; the input reads as it did. -/
def tableInvertsUptoRow : OpenClaim := { program := "ytkpjjfhfbpfjpaa", sum := "9a8f4a02f235607b6a8f2d35cceed8efabf59bc1b5a1490910b7f9575c770549", func := "partsync/partsynclaw08.TableInverts", spec := "tableInverts", inPlace := ["internal/bytealg.abigen_runtime_cmpstring"], unfollowed := true, recurses := true, apart := false, narrowed := true }
def TableInvertsUptoSaid : Prop := tableInvertsUptoRow.holds Try.pinned (OpenSpec.upto tableInvertsSpec)

/-- 'partsynclaw08.TableFresh', WHERE WHAT IT READS IS OF BULK AT MOST 1048576: true; the input reads as it did. -/
def tableFreshUptoRow : OpenClaim := { program := "ytkpjjfhfbpfjpaa", sum := "9a8f4a02f235607b6a8f2d35cceed8efabf59bc1b5a1490910b7f9575c770549", func := "partsync/partsynclaw08.TableFresh", spec := "tableFresh", inPlace := ["internal/bytealg.abigen_runtime_cmpstring"], unfollowed := true, recurses := true, apart := false, narrowed := true }
def TableFreshUptoSaid : Prop := tableFreshUptoRow.holds Try.pinned (OpenSpec.upto tableFreshSpec)

/-- 'partsynclaw08.TableGets', WHERE WHAT IT READS IS OF BULK AT MOST 1048576: true; the input reads as it did. -/
def tableGetsUptoRow : OpenClaim := { program := "ytkpjjfhfbpfjpaa", sum := "9a8f4a02f235607b6a8f2d35cceed8efabf59bc1b5a1490910b7f9575c770549", func := "partsync/partsynclaw08.TableGets", spec := "tableGets", inPlace := ["internal/bytealg.abigen_runtime_cmpstring"], unfollowed := true, recurses := true, apart := false, narrowed := true }
def TableGetsUptoSaid : Prop := tableGetsUptoRow.holds Try.pinned (OpenSpec.upto tableGetsSpec)

/-- 'partsynclaw08.TableNetsApply', WHERE WHAT IT READS IS OF BULK AT MOST 1048576: true; the input reads as it did. -/
def tableNetsApplyUptoRow : OpenClaim := { program := "ytkpjjfhfbpfjpaa", sum := "9a8f4a02f235607b6a8f2d35cceed8efabf59bc1b5a1490910b7f9575c770549", func := "partsync/partsynclaw08.TableNetsApply", spec := "tableNetsApply", inPlace := ["internal/bytealg.abigen_runtime_cmpstring"], unfollowed := true, recurses := true, apart := false, narrowed := true }
def TableNetsApplyUptoSaid : Prop := tableNetsApplyUptoRow.holds Try.pinned (OpenSpec.upto tableNetsApplySpec)

/-- 'partsynclaw08.TableTriangle', WHERE WHAT IT READS IS OF BULK AT MOST 1048576: true; the input reads as it did. -/
def tableTriangleUptoRow : OpenClaim := { program := "ytkpjjfhfbpfjpaa", sum := "9a8f4a02f235607b6a8f2d35cceed8efabf59bc1b5a1490910b7f9575c770549", func := "partsync/partsynclaw08.TableTriangle", spec := "tableTriangle", inPlace := ["internal/bytealg.abigen_runtime_cmpstring"], unfollowed := true, recurses := true, apart := false, narrowed := true }
def TableTriangleUptoSaid : Prop := tableTriangleUptoRow.holds Try.pinned (OpenSpec.upto tableTriangleSpec)

/-- 'partsynclaw24.ShardFew', WHERE WHAT IT READS IS OF BULK AT MOST 1048576: true; the input reads as it did. -/
def shardFewUptoRow : OpenClaim := { program := "ytkpjjfhfbpfjpaa", sum := "9a8f4a02f235607b6a8f2d35cceed8efabf59bc1b5a1490910b7f9575c770549", func := "partsync/partsynclaw24.ShardFew", spec := "shardFew", inPlace := ["internal/bytealg.abigen_runtime_cmpstring"], unfollowed := true, recurses := true, apart := false, narrowed := true }
def ShardFewUptoSaid : Prop := shardFewUptoRow.holds Try.pinned (OpenSpec.upto shardFewSpec)

end Rows
end Go.Proofs.Ytkpjjfhfbpfjpaa
