import Derived.Test.YtkpjjfhfbpfjpaaK42e91f
set_option linter.unusedVariables false
set_option linter.unusedSimpArgs false
set_option maxRecDepth 100000
namespace Go.Proofs.Ytkpjjfhfbpfjpaa
open Go.RowKit
theorem size_arg {l:List Pred} {k:Nat} {p:Pred} (hk:k<l.length) (e:l.getD k p0=p):SizeOf.sizeOf p<SizeOf.sizeOf l:=by
 subst e
 have:l.getD k p0=l[k]:=by simp [List.getD,hk]
 rw [this]
 exact List.sizeOf_lt_of_mem (List.getElem_mem _)
end Go.Proofs.Ytkpjjfhfbpfjpaa

