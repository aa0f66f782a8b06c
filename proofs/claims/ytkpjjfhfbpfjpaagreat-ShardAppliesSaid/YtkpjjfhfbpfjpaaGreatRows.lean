/-
  NARROWER THAN 'FOR EVERY INPUT', by the rows' own cells (each row's printed sentence says how): TableChecks: loops.
  DERIVED. THE GIVEN ROWS OF THIS SEAT. 6 by the template 'for every input the law returns true; each argument reads behind the call as it read before'; 0 by the template 'total and deterministic' (their statements: YtkpjjfhfbpfjpaaGreatTotals.lean).
  GIVEN WITH THE SEED: the statements are not yours to turn. If you find one false, say at which input.
  Laid BY PROGRAM, IN A SANDBOX (cutbox-rows.mjs): the forced cells as the released guide's own fill.sh prints them over the translation c890cf54cd0e28cd… (all of the seat's roots in one cut). By AI agents, Wed Nov 11 2026. No macro, syntax, notation, axiom, sorry.
-/
import Derived.Test.YtkpjjfhfbpfjpaaGreatChecked
import GoSem.Claim
import GoSem.ClaimJoined
import GoSem.ClaimMapViews
import Derived.JoinedTies
import Derived.KernelRfl
namespace Go.Proofs.YtkpjjfhfbpfjpaaGreat
/- THE CELL 'sum', in the pinned program and in every row, IS THE sha256 OF THE DUMP (.gsa) THAT YtkpjjfhfbpfjpaaGreatProg.lean LOADS. Nothing in Lean hashes anything: it is a label: what it is worth is what the hold of that sum in a sandbox is worth. -/
noncomputable def Tryz.pinned : Pinned := { name := "ytkpjjfhfbpfjpaagreat", sum := "c890cf54cd0e28cd0d40f91a70df8079d83245ed712ed711a9f0f9bbd44f1078", checked := Tryz.checked }
namespace Rows
def none {H : Type} : Left H := { results := [], args := [] }

/-- 'partsynclaw08.TableApplies': WHATEVER THE INPUT: true; the input reads as it did. -/
def tableAppliesSpec : ChangeSpec := { name := "tableApplies", fn := fun _ => fun
  | [d1, d2, d3] => { results := [.lit (.bool true)], args := [d1, d2, d3] }
  | _ => none }
def tableAppliesRow : OpenClaim := { program := "ytkpjjfhfbpfjpaagreat", sum := "c890cf54cd0e28cd0d40f91a70df8079d83245ed712ed711a9f0f9bbd44f1078", func := "partsync/partsynclaw08.TableApplies", spec := "tableApplies", inPlace := ["internal/bytealg.abigen_runtime_cmpstring"], unfollowed := true, recurses := true, apart := false }
def TableAppliesSaid : Prop := tableAppliesRow.holds Tryz.pinned (OpenSpec.ofChange tableAppliesSpec)

/-- ITS FALSE NEIGHBOUR: 'it returns false'. Refute it at one input. -/
def tableAppliesWrong : ChangeSpec := { name := "tableApplies", fn := fun _ => fun
  | [d1, d2, d3] => { results := [.lit (.bool false)], args := [d1, d2, d3] }
  | _ => none }
def TableAppliesWrongFalsely : Prop := tableAppliesRow.holds Tryz.pinned (OpenSpec.ofChange tableAppliesWrong)

/-- 'partsynclaw08.TableNets': WHATEVER THE INPUT: true; the input reads as it did. -/
def tableNetsSpec : ChangeSpec := { name := "tableNets", fn := fun _ => fun
  | [d1, d2, d3] => { results := [.lit (.bool true)], args := [d1, d2, d3] }
  | _ => none }
def tableNetsRow : OpenClaim := { program := "ytkpjjfhfbpfjpaagreat", sum := "c890cf54cd0e28cd0d40f91a70df8079d83245ed712ed711a9f0f9bbd44f1078", func := "partsync/partsynclaw08.TableNets", spec := "tableNets", inPlace := ["internal/bytealg.abigen_runtime_cmpstring"], unfollowed := true, recurses := true, apart := false }
def TableNetsSaid : Prop := tableNetsRow.holds Tryz.pinned (OpenSpec.ofChange tableNetsSpec)

/-- ITS FALSE NEIGHBOUR: 'it returns false'. Refute it at one input. -/
def tableNetsWrong : ChangeSpec := { name := "tableNets", fn := fun _ => fun
  | [d1, d2, d3] => { results := [.lit (.bool false)], args := [d1, d2, d3] }
  | _ => none }
def TableNetsWrongFalsely : Prop := tableNetsRow.holds Tryz.pinned (OpenSpec.ofChange tableNetsWrong)

/-- 'partsynclaw08.TableChecks': WHATEVER THE INPUT: true; the input reads as it did. -/
def tableChecksSpec : ChangeSpec := { name := "tableChecks", fn := fun _ => fun
  | [d1, d2, d3, d4] => { results := [.lit (.bool true)], args := [d1, d2, d3, d4] }
  | _ => none }
def tableChecksRow : OpenClaim := { program := "ytkpjjfhfbpfjpaagreat", sum := "c890cf54cd0e28cd0d40f91a70df8079d83245ed712ed711a9f0f9bbd44f1078", func := "partsync/partsynclaw08.TableChecks", spec := "tableChecks", inPlace := ["internal/bytealg.abigen_runtime_cmpstring"], unfollowed := true, recurses := true, loops := true, apart := false }
def TableChecksSaid : Prop := tableChecksRow.holds Tryz.pinned (OpenSpec.ofChange tableChecksSpec)

/-- ITS FALSE NEIGHBOUR: 'it returns false'. Refute it at one input. -/
def tableChecksWrong : ChangeSpec := { name := "tableChecks", fn := fun _ => fun
  | [d1, d2, d3, d4] => { results := [.lit (.bool false)], args := [d1, d2, d3, d4] }
  | _ => none }
def TableChecksWrongFalsely : Prop := tableChecksRow.holds Tryz.pinned (OpenSpec.ofChange tableChecksWrong)

/-- 'partsynclaw08.TableDifferences': WHATEVER THE INPUT: true; the input reads as it did. -/
def tableDifferencesSpec : ChangeSpec := { name := "tableDifferences", fn := fun _ => fun
  | [d1, d2] => { results := [.lit (.bool true)], args := [d1, d2] }
  | _ => none }
def tableDifferencesRow : OpenClaim := { program := "ytkpjjfhfbpfjpaagreat", sum := "c890cf54cd0e28cd0d40f91a70df8079d83245ed712ed711a9f0f9bbd44f1078", func := "partsync/partsynclaw08.TableDifferences", spec := "tableDifferences", inPlace := ["internal/bytealg.abigen_runtime_cmpstring"], unfollowed := true, recurses := true, apart := false }
def TableDifferencesSaid : Prop := tableDifferencesRow.holds Tryz.pinned (OpenSpec.ofChange tableDifferencesSpec)

/-- ITS FALSE NEIGHBOUR: 'it returns false'. Refute it at one input. -/
def tableDifferencesWrong : ChangeSpec := { name := "tableDifferences", fn := fun _ => fun
  | [d1, d2] => { results := [.lit (.bool false)], args := [d1, d2] }
  | _ => none }
def TableDifferencesWrongFalsely : Prop := tableDifferencesRow.holds Tryz.pinned (OpenSpec.ofChange tableDifferencesWrong)

/-- 'partsynclaw24.ShardBack': WHATEVER THE INPUT: true; the input reads as it did. -/
def shardBackSpec : ChangeSpec := { name := "shardBack", fn := fun _ => fun
  | [d] => { results := [.lit (.bool true)], args := [d] }
  | _ => none }
def shardBackRow : OpenClaim := { program := "ytkpjjfhfbpfjpaagreat", sum := "c890cf54cd0e28cd0d40f91a70df8079d83245ed712ed711a9f0f9bbd44f1078", func := "partsync/partsynclaw24.ShardBack", spec := "shardBack", inPlace := ["internal/bytealg.abigen_runtime_cmpstring"], unfollowed := true, recurses := true, apart := false }
def ShardBackSaid : Prop := shardBackRow.holds Tryz.pinned (OpenSpec.ofChange shardBackSpec)

/-- ITS FALSE NEIGHBOUR: 'it returns false'. Refute it at one input. -/
def shardBackWrong : ChangeSpec := { name := "shardBack", fn := fun _ => fun
  | [d] => { results := [.lit (.bool false)], args := [d] }
  | _ => none }
def ShardBackWrongFalsely : Prop := shardBackRow.holds Tryz.pinned (OpenSpec.ofChange shardBackWrong)

/-- 'partsynclaw24.ShardApplies': WHATEVER THE INPUT: true; the input reads as it did. -/
def shardAppliesSpec : ChangeSpec := { name := "shardApplies", fn := fun _ => fun
  | [d] => { results := [.lit (.bool true)], args := [d] }
  | _ => none }
def shardAppliesRow : OpenClaim := { program := "ytkpjjfhfbpfjpaagreat", sum := "c890cf54cd0e28cd0d40f91a70df8079d83245ed712ed711a9f0f9bbd44f1078", func := "partsync/partsynclaw24.ShardApplies", spec := "shardApplies", inPlace := ["internal/bytealg.abigen_runtime_cmpstring"], unfollowed := true, recurses := true, apart := false }
def ShardAppliesSaid : Prop := shardAppliesRow.holds Tryz.pinned (OpenSpec.ofChange shardAppliesSpec)

/-- ITS FALSE NEIGHBOUR: 'it returns false'. Refute it at one input. -/
def shardAppliesWrong : ChangeSpec := { name := "shardApplies", fn := fun _ => fun
  | [d] => { results := [.lit (.bool false)], args := [d] }
  | _ => none }
def ShardAppliesWrongFalsely : Prop := shardAppliesRow.holds Tryz.pinned (OpenSpec.ofChange shardAppliesWrong)

/- THE SECOND FORM. 'bulk': how many values and letters a reading holds, each counted each time it is reached (what is shared counts as often as it is met; a slice's spare places count too). A statement '..UptoSaid' is the law's where the arguments, and the package variables that the reading takes, are together of bulk at most 1048576: NARROWER than '..Said'. Prove '..Said' where nothing that the law and all that it calls make is longer than what came in: it says more and counts as full. Else prove '..UptoSaid'. A law counts once. -/
mutual
def uptoBulk {H : Type} : DataW H → Nat
  | .lit (.string bytes) => bytes.length + 1
  | .lit _ => 1
  | .nil => 1
  | .ptr d => uptoBulk d + 1
  | .slice elems spare => uptoBulkAll elems + uptoBulkAll spare + 1
  | .agg parts => uptoBulkAll parts + 1
  | .iface _ d => uptoBulk d + 1
  | .map entries => uptoBulkEntries entries + 1
  | .held _ => 1
def uptoBulkAll {H : Type} : List (DataW H) → Nat
  | [] => 0
  | d :: r => uptoBulk d + uptoBulkAll r
def uptoBulkEntries {H : Type} : List (Lit × DataW H) → Nat
  | [] => 0
  | x :: r => uptoBulkEntry x + uptoBulkEntries r
def uptoBulkEntry {H : Type} : Lit × DataW H → Nat
  | (.string bytes, d) => bytes.length + uptoBulk d + 1
  | (_, d) => uptoBulk d + 1
 end
def uptoSmall : (H : Type) → List (DataW H) → Bool := fun _ ds => decide (uptoBulkAll ds ≤ 1048576)
def OpenSpec.upto (s : _root_.Go.ChangeSpec) : _root_.Go.OpenSpec := { _root_.Go.OpenSpec.ofChange s with cond := some uptoSmall }

/-- 'partsynclaw08.TableApplies', WHERE WHAT IT READS IS OF BULK AT MOST 1048576: true; the input reads as it did. -/
def tableAppliesUptoRow : OpenClaim := { program := "ytkpjjfhfbpfjpaagreat", sum := "c890cf54cd0e28cd0d40f91a70df8079d83245ed712ed711a9f0f9bbd44f1078", func := "partsync/partsynclaw08.TableApplies", spec := "tableApplies", inPlace := ["internal/bytealg.abigen_runtime_cmpstring"], unfollowed := true, recurses := true, apart := false, narrowed := true }
def TableAppliesUptoSaid : Prop := tableAppliesUptoRow.holds Tryz.pinned (OpenSpec.upto tableAppliesSpec)

/-- 'partsynclaw08.TableNets', WHERE WHAT IT READS IS OF BULK AT MOST 1048576: true; the input reads as it did. -/
def tableNetsUptoRow : OpenClaim := { program := "ytkpjjfhfbpfjpaagreat", sum := "c890cf54cd0e28cd0d40f91a70df8079d83245ed712ed711a9f0f9bbd44f1078", func := "partsync/partsynclaw08.TableNets", spec := "tableNets", inPlace := ["internal/bytealg.abigen_runtime_cmpstring"], unfollowed := true, recurses := true, apart := false, narrowed := true }
def TableNetsUptoSaid : Prop := tableNetsUptoRow.holds Tryz.pinned (OpenSpec.upto tableNetsSpec)

/-- 'partsynclaw08.TableChecks', WHERE WHAT IT READS IS OF BULK AT MOST 1048576: true; the input reads as it did. -/
def tableChecksUptoRow : OpenClaim := { program := "ytkpjjfhfbpfjpaagreat", sum := "c890cf54cd0e28cd0d40f91a70df8079d83245ed712ed711a9f0f9bbd44f1078", func := "partsync/partsynclaw08.TableChecks", spec := "tableChecks", inPlace := ["internal/bytealg.abigen_runtime_cmpstring"], unfollowed := true, recurses := true, loops := true, apart := false, narrowed := true }
def TableChecksUptoSaid : Prop := tableChecksUptoRow.holds Tryz.pinned (OpenSpec.upto tableChecksSpec)

/-- 'partsynclaw08.TableDifferences', WHERE WHAT IT READS IS OF BULK AT MOST 1048576: true; the input reads as it did. -/
def tableDifferencesUptoRow : OpenClaim := { program := "ytkpjjfhfbpfjpaagreat", sum := "c890cf54cd0e28cd0d40f91a70df8079d83245ed712ed711a9f0f9bbd44f1078", func := "partsync/partsynclaw08.TableDifferences", spec := "tableDifferences", inPlace := ["internal/bytealg.abigen_runtime_cmpstring"], unfollowed := true, recurses := true, apart := false, narrowed := true }
def TableDifferencesUptoSaid : Prop := tableDifferencesUptoRow.holds Tryz.pinned (OpenSpec.upto tableDifferencesSpec)

/-- 'partsynclaw24.ShardBack', WHERE WHAT IT READS IS OF BULK AT MOST 1048576: true; the input reads as it did. -/
def shardBackUptoRow : OpenClaim := { program := "ytkpjjfhfbpfjpaagreat", sum := "c890cf54cd0e28cd0d40f91a70df8079d83245ed712ed711a9f0f9bbd44f1078", func := "partsync/partsynclaw24.ShardBack", spec := "shardBack", inPlace := ["internal/bytealg.abigen_runtime_cmpstring"], unfollowed := true, recurses := true, apart := false, narrowed := true }
def ShardBackUptoSaid : Prop := shardBackUptoRow.holds Tryz.pinned (OpenSpec.upto shardBackSpec)

/-- 'partsynclaw24.ShardApplies', WHERE WHAT IT READS IS OF BULK AT MOST 1048576: true; the input reads as it did. -/
def shardAppliesUptoRow : OpenClaim := { program := "ytkpjjfhfbpfjpaagreat", sum := "c890cf54cd0e28cd0d40f91a70df8079d83245ed712ed711a9f0f9bbd44f1078", func := "partsync/partsynclaw24.ShardApplies", spec := "shardApplies", inPlace := ["internal/bytealg.abigen_runtime_cmpstring"], unfollowed := true, recurses := true, apart := false, narrowed := true }
def ShardAppliesUptoSaid : Prop := shardAppliesUptoRow.holds Tryz.pinned (OpenSpec.upto shardAppliesSpec)

end Rows
end Go.Proofs.YtkpjjfhfbpfjpaaGreat
