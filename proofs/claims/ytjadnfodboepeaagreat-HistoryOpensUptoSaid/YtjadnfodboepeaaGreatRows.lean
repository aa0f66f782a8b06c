/-
  NARROWER THAN 'FOR EVERY INPUT', by the rows' own cells (each row's printed sentence says how): HistoryOpens: loops.
  DERIVED. THE GIVEN ROWS OF THIS SEAT. 6 by the template 'for every input the law returns true; each argument reads behind the call as it read before'; 0 by the template 'total and deterministic' (their statements: YtjadnfodboepeaaGreatTotals.lean).
  GIVEN WITH THE SEED: the statements are not yours to turn. If you find one false, say at which input.
  Laid BY PROGRAM, IN A SANDBOX (cutbox-rows.mjs): the forced cells as the released guide's own fill.sh prints them over the translation f7797e2caaf5b5d3… (all of the seat's roots in one cut). By AI agents, Wed Nov 11 2026. No macro, syntax, notation, axiom, sorry.
-/
import Derived.Test.YtjadnfodboepeaaGreatChecked
import GoSem.Claim
import GoSem.ClaimJoined
import GoSem.ClaimMapViews
import Derived.JoinedTies
import Derived.KernelRfl
namespace Go.Proofs.YtjadnfodboepeaaGreat
/- THE CELL 'sum', in the pinned program and in every row, IS THE sha256 OF THE DUMP (.gsa) THAT YtjadnfodboepeaaGreatProg.lean LOADS. Nothing in Lean hashes anything: it is a label: what it is worth is what the hold of that sum in a sandbox is worth. -/
noncomputable def Tryz.pinned : Pinned := { name := "ytjadnfodboepeaagreat", sum := "f7797e2caaf5b5d3cc847e98f24e6deaaff0a5c8c5ec969cfa9e1c36086d34f7", checked := Tryz.checked }
namespace Rows
def none {H : Type} : Left H := { results := [], args := [] }

/-- 'partsynclaw25.HistoryOpens': WHATEVER THE INPUT: true; the input reads as it did. -/
def historyOpensSpec : ChangeSpec := { name := "historyOpens", fn := fun _ => fun
  | [d1, d2, d3, d4] => { results := [.lit (.bool true)], args := [d1, d2, d3, d4] }
  | _ => none }
def historyOpensRow : OpenClaim := { program := "ytjadnfodboepeaagreat", sum := "f7797e2caaf5b5d3cc847e98f24e6deaaff0a5c8c5ec969cfa9e1c36086d34f7", func := "partsync/partsynclaw25.HistoryOpens", spec := "historyOpens", inPlace := ["internal/bytealg.abigen_runtime_cmpstring"], unfollowed := true, recurses := true, loops := true, apart := false }
def HistoryOpensSaid : Prop := historyOpensRow.holds Tryz.pinned (OpenSpec.ofChange historyOpensSpec)

/-- ITS FALSE NEIGHBOUR: 'it returns false'. Refute it at one input. -/
def historyOpensWrong : ChangeSpec := { name := "historyOpens", fn := fun _ => fun
  | [d1, d2, d3, d4] => { results := [.lit (.bool false)], args := [d1, d2, d3, d4] }
  | _ => none }
def HistoryOpensWrongFalsely : Prop := historyOpensRow.holds Tryz.pinned (OpenSpec.ofChange historyOpensWrong)

/-- 'partsynclaw25.HistoryHomes': WHATEVER THE INPUT: true; the input reads as it did. -/
def historyHomesSpec : ChangeSpec := { name := "historyHomes", fn := fun _ => fun
  | [d] => { results := [.lit (.bool true)], args := [d] }
  | _ => none }
def historyHomesRow : OpenClaim := { program := "ytjadnfodboepeaagreat", sum := "f7797e2caaf5b5d3cc847e98f24e6deaaff0a5c8c5ec969cfa9e1c36086d34f7", func := "partsync/partsynclaw25.HistoryHomes", spec := "historyHomes", inPlace := ["internal/bytealg.abigen_runtime_cmpstring"], unfollowed := true, recurses := true, apart := false }
def HistoryHomesSaid : Prop := historyHomesRow.holds Tryz.pinned (OpenSpec.ofChange historyHomesSpec)

/-- ITS FALSE NEIGHBOUR: 'it returns false'. Refute it at one input. -/
def historyHomesWrong : ChangeSpec := { name := "historyHomes", fn := fun _ => fun
  | [d] => { results := [.lit (.bool false)], args := [d] }
  | _ => none }
def HistoryHomesWrongFalsely : Prop := historyHomesRow.holds Tryz.pinned (OpenSpec.ofChange historyHomesWrong)

/-- 'partsynclaw25.HistoryForgets': WHATEVER THE INPUT: true; the input reads as it did. -/
def historyForgetsSpec : ChangeSpec := { name := "historyForgets", fn := fun _ => fun
  | [d] => { results := [.lit (.bool true)], args := [d] }
  | _ => none }
def historyForgetsRow : OpenClaim := { program := "ytjadnfodboepeaagreat", sum := "f7797e2caaf5b5d3cc847e98f24e6deaaff0a5c8c5ec969cfa9e1c36086d34f7", func := "partsync/partsynclaw25.HistoryForgets", spec := "historyForgets", inPlace := ["internal/bytealg.abigen_runtime_cmpstring"], unfollowed := true, recurses := true, apart := false }
def HistoryForgetsSaid : Prop := historyForgetsRow.holds Tryz.pinned (OpenSpec.ofChange historyForgetsSpec)

/-- ITS FALSE NEIGHBOUR: 'it returns false'. Refute it at one input. -/
def historyForgetsWrong : ChangeSpec := { name := "historyForgets", fn := fun _ => fun
  | [d] => { results := [.lit (.bool false)], args := [d] }
  | _ => none }
def HistoryForgetsWrongFalsely : Prop := historyForgetsRow.holds Tryz.pinned (OpenSpec.ofChange historyForgetsWrong)

/-- 'partsynclaw25.HistoryLeads': WHATEVER THE INPUT: true; the input reads as it did. -/
def historyLeadsSpec : ChangeSpec := { name := "historyLeads", fn := fun _ => fun
  | [d] => { results := [.lit (.bool true)], args := [d] }
  | _ => none }
def historyLeadsRow : OpenClaim := { program := "ytjadnfodboepeaagreat", sum := "f7797e2caaf5b5d3cc847e98f24e6deaaff0a5c8c5ec969cfa9e1c36086d34f7", func := "partsync/partsynclaw25.HistoryLeads", spec := "historyLeads", inPlace := ["internal/bytealg.abigen_runtime_cmpstring"], unfollowed := true, recurses := true, apart := false }
def HistoryLeadsSaid : Prop := historyLeadsRow.holds Tryz.pinned (OpenSpec.ofChange historyLeadsSpec)

/-- ITS FALSE NEIGHBOUR: 'it returns false'. Refute it at one input. -/
def historyLeadsWrong : ChangeSpec := { name := "historyLeads", fn := fun _ => fun
  | [d] => { results := [.lit (.bool false)], args := [d] }
  | _ => none }
def HistoryLeadsWrongFalsely : Prop := historyLeadsRow.holds Tryz.pinned (OpenSpec.ofChange historyLeadsWrong)

/-- 'partsynclaw25.HistoryRefuses': WHATEVER THE INPUT: true; the input reads as it did. -/
def historyRefusesSpec : ChangeSpec := { name := "historyRefuses", fn := fun _ => fun
  | [d1, d2, d3, d4] => { results := [.lit (.bool true)], args := [d1, d2, d3, d4] }
  | _ => none }
def historyRefusesRow : OpenClaim := { program := "ytjadnfodboepeaagreat", sum := "f7797e2caaf5b5d3cc847e98f24e6deaaff0a5c8c5ec969cfa9e1c36086d34f7", func := "partsync/partsynclaw25.HistoryRefuses", spec := "historyRefuses", inPlace := ["internal/bytealg.abigen_runtime_cmpstring"], unfollowed := true, recurses := true, apart := false }
def HistoryRefusesSaid : Prop := historyRefusesRow.holds Tryz.pinned (OpenSpec.ofChange historyRefusesSpec)

/-- ITS FALSE NEIGHBOUR: 'it returns false'. Refute it at one input. -/
def historyRefusesWrong : ChangeSpec := { name := "historyRefuses", fn := fun _ => fun
  | [d1, d2, d3, d4] => { results := [.lit (.bool false)], args := [d1, d2, d3, d4] }
  | _ => none }
def HistoryRefusesWrongFalsely : Prop := historyRefusesRow.holds Tryz.pinned (OpenSpec.ofChange historyRefusesWrong)

/-- 'partsynclaw25.HistoryCuts': WHATEVER THE INPUT: true; the input reads as it did. -/
def historyCutsSpec : ChangeSpec := { name := "historyCuts", fn := fun _ => fun
  | [d] => { results := [.lit (.bool true)], args := [d] }
  | _ => none }
def historyCutsRow : OpenClaim := { program := "ytjadnfodboepeaagreat", sum := "f7797e2caaf5b5d3cc847e98f24e6deaaff0a5c8c5ec969cfa9e1c36086d34f7", func := "partsync/partsynclaw25.HistoryCuts", spec := "historyCuts", inPlace := ["internal/bytealg.abigen_runtime_cmpstring"], unfollowed := true, recurses := true, apart := false }
def HistoryCutsSaid : Prop := historyCutsRow.holds Tryz.pinned (OpenSpec.ofChange historyCutsSpec)

/-- ITS FALSE NEIGHBOUR: 'it returns false'. Refute it at one input. -/
def historyCutsWrong : ChangeSpec := { name := "historyCuts", fn := fun _ => fun
  | [d] => { results := [.lit (.bool false)], args := [d] }
  | _ => none }
def HistoryCutsWrongFalsely : Prop := historyCutsRow.holds Tryz.pinned (OpenSpec.ofChange historyCutsWrong)

/- THE SECOND FORM. 'bulk': how many values and letters a reading holds, each counted each time it is reached (what is shared counts as often as it is met; a slice's spare places count too). A statement '..UptoSaid' is the law's where the arguments, and the package variables that the reading takes, are together of bulk at most 1048576: NARROWER than '..Said'. Prove '..Said' where nothing that the law and all that it calls make is longer than what came in: it says more and counts as full. Else prove '..UptoSaid'. A law counts once. -/
mutual
def uptoBulk {H : Type} : DataW H → Nat
  | .lit (.string bytes) => bytes.length + 1
  | .lit _ => 1
  | .nil => 1
  | .ptr d => uptoBulk d + 1
  | .slice elems spare => uptoBulkAll elems + uptoBulkAll spare + 1
  | .agg parts => uptoBulkAll parts + 1
  | .iface _ d => uptoBulk d + 1
  | .map entries => uptoBulkEntries entries + 1
  | .held _ => 1
def uptoBulkAll {H : Type} : List (DataW H) → Nat
  | [] => 0
  | d :: r => uptoBulk d + uptoBulkAll r
def uptoBulkEntries {H : Type} : List (Lit × DataW H) → Nat
  | [] => 0
  | x :: r => uptoBulkEntry x + uptoBulkEntries r
def uptoBulkEntry {H : Type} : Lit × DataW H → Nat
  | (.string bytes, d) => bytes.length + uptoBulk d + 1
  | (_, d) => uptoBulk d + 1
 end
def uptoSmall : (H : Type) → List (DataW H) → Bool := fun _ ds => decide (uptoBulkAll ds ≤ 1048576)
def OpenSpec.upto (s : _root_.Go.ChangeSpec) : _root_.Go.OpenSpec := { _root_.Go.OpenSpec.ofChange s with cond := some uptoSmall }

/-- 'partsynclaw25.HistoryOpens', WHERE WHAT IT READS IS OF BULK AT MOST 1048576: true; the input reads as it did. -/
def historyOpensUptoRow : OpenClaim := { program := "ytjadnfodboepeaagreat", sum := "f7797e2caaf5b5d3cc847e98f24e6deaaff0a5c8c5ec969cfa9e1c36086d34f7", func := "partsync/partsynclaw25.HistoryOpens", spec := "historyOpens", inPlace := ["internal/bytealg.abigen_runtime_cmpstring"], unfollowed := true, recurses := true, loops := true, apart := false, narrowed := true }
def HistoryOpensUptoSaid : Prop := historyOpensUptoRow.holds Tryz.pinned (OpenSpec.upto historyOpensSpec)

/-- 'partsynclaw25.HistoryHomes', WHERE WHAT IT READS IS OF BULK AT MOST 1048576: true; the input reads as it did. -/
def historyHomesUptoRow : OpenClaim := { program := "ytjadnfodboepeaagreat", sum := "f7797e2caaf5b5d3cc847e98f24e6deaaff0a5c8c5ec969cfa9e1c36086d34f7", func := "partsync/partsynclaw25.HistoryHomes", spec := "historyHomes", inPlace := ["internal/bytealg.abigen_runtime_cmpstring"], unfollowed := true, recurses := true, apart := false, narrowed := true }
def HistoryHomesUptoSaid : Prop := historyHomesUptoRow.holds Tryz.pinned (OpenSpec.upto historyHomesSpec)

/-- 'partsynclaw25.HistoryForgets', WHERE WHAT IT READS IS OF BULK AT MOST 1048576: true; the input reads as it did. -/
def historyForgetsUptoRow : OpenClaim := { program := "ytjadnfodboepeaagreat", sum := "f7797e2caaf5b5d3cc847e98f24e6deaaff0a5c8c5ec969cfa9e1c36086d34f7", func := "partsync/partsynclaw25.HistoryForgets", spec := "historyForgets", inPlace := ["internal/bytealg.abigen_runtime_cmpstring"], unfollowed := true, recurses := true, apart := false, narrowed := true }
def HistoryForgetsUptoSaid : Prop := historyForgetsUptoRow.holds Tryz.pinned (OpenSpec.upto historyForgetsSpec)

/-- 'partsynclaw25.HistoryLeads', WHERE WHAT IT READS IS OF BULK AT MOST 1048576: true; the input reads as it did. -/
def historyLeadsUptoRow : OpenClaim := { program := "ytjadnfodboepeaagreat", sum := "f7797e2caaf5b5d3cc847e98f24e6deaaff0a5c8c5ec969cfa9e1c36086d34f7", func := "partsync/partsynclaw25.HistoryLeads", spec := "historyLeads", inPlace := ["internal/bytealg.abigen_runtime_cmpstring"], unfollowed := true, recurses := true, apart := false, narrowed := true }
def HistoryLeadsUptoSaid : Prop := historyLeadsUptoRow.holds Tryz.pinned (OpenSpec.upto historyLeadsSpec)

/-- 'partsynclaw25.HistoryRefuses', WHERE WHAT IT READS IS OF BULK AT MOST 1048576: true; the input reads as it did. -/
def historyRefusesUptoRow : OpenClaim := { program := "ytjadnfodboepeaagreat", sum := "f7797e2caaf5b5d3cc847e98f24e6deaaff0a5c8c5ec969cfa9e1c36086d34f7", func := "partsync/partsynclaw25.HistoryRefuses", spec := "historyRefuses", inPlace := ["internal/bytealg.abigen_runtime_cmpstring"], unfollowed := true, recurses := true, apart := false, narrowed := true }
def HistoryRefusesUptoSaid : Prop := historyRefusesUptoRow.holds Tryz.pinned (OpenSpec.upto historyRefusesSpec)

/-- 'partsynclaw25.HistoryCuts', WHERE WHAT IT READS IS OF BULK AT MOST 1048576: true; the input reads as it did. -/
def historyCutsUptoRow : OpenClaim := { program := "ytjadnfodboepeaagreat", sum := "f7797e2caaf5b5d3cc847e98f24e6deaaff0a5c8c5ec969cfa9e1c36086d34f7", func := "partsync/partsynclaw25.HistoryCuts", spec := "historyCuts", inPlace := ["internal/bytealg.abigen_runtime_cmpstring"], unfollowed := true, recurses := true, apart := false, narrowed := true }
def HistoryCutsUptoSaid : Prop := historyCutsUptoRow.holds Tryz.pinned (OpenSpec.upto historyCutsSpec)

end Rows
end Go.Proofs.YtjadnfodboepeaaGreat
