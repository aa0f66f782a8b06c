import Derived.Test.YtkpjjfhfbpfjpaaGreatKa64ff6
set_option linter.unusedVariables false
set_option linter.unusedSimpArgs false
set_option maxRecDepth 100000
set_option maxHeartbeats 8000000
namespace Go.Proofs.YtkpjjfhfbpfjpaaGreat
section
variable {α:Type} {f:α→α→Int}
structure TPre (f:α→α→Int):Prop where
 flip:∀ a b,f a b<0↔0<f b a
 le_trans:∀ a b c,f a b≤0→f b c≤0→f a c≤0
theorem TPre.refl (h:TPre f) (a:α):f a a=0:=by have:=h.flip a a;omega
theorem TPre.lt_le (h:TPre f) {a b c:α} (h1:f a b<0) (h2:f b c≤0):f a c<0:=by
 have h3:=h.flip a c;have h4:=h.flip c a;have h5:=h.flip a b;have h6:=h.le_trans b c a h2;omega
end
end Go.Proofs.YtkpjjfhfbpfjpaaGreat
