/- A region that draws its order: two operations may come up. -/
import Derived.Test.YtjpknhhdkjhjfaaUntil
namespace Go.Proofs.Ytjpknhhdkjhjfaa
open Go Go.RowKit
theorem anyT_two {P : Program} {ops : Array Oper} {Q : Exit → Act → World → Prop} {md : Region.Mode} {S : World → Prop} {d i j : Nat} {oi oj : Oper} {n : Nat} {listed Li Lj : Array Bool} {a : Act} {w : World} (hi : ops[i]? = some oi) (hj : ops[j]? = some oj) (hLi : listed.setIfInBounds i true = Li) (hLj : listed.setIfInBounds j true = Lj) (hr : Region.ready md ops listed = [i, j])
    (h1 : ∀ K : Act → World → Prop, (∀ a' w', (i ≠ d → S w') → AnyU P md ops Q S d n Li a' w' → K a' w') → if Region.wanted oi (yielded ops a.tmps) = true then Oper.wp P oi a w K Q else K (a.put oi.dst undef) w)
    (h2 : ∀ K : Act → World → Prop, (∀ a' w', (j ≠ d → S w') → AnyU P md ops Q S d n Lj a' w' → K a' w') → if Region.wanted oj (yielded ops a.tmps) = true then Oper.wp P oj a w K Q else K (a.put oj.dst undef) w) :
    AnyU P md ops Q S d (n + 1) listed a w := by
  refine ⟨(fun h0 => by rw [hr] at h0; cases h0), fun k hk => ?_⟩
  rw [hr] at hk
  rcases List.mem_cons.1 hk with e | e
  · subst e
    rw [hLi]
    exact wpOp_step hi (fun K hK => h1 K fun a' w' g1 g2 => hK a' w' ⟨g1, g2⟩)
  · have e := List.mem_singleton.1 e
    subst e
    rw [hLj]
    exact wpOp_step hj (fun K hK => h2 K fun a' w' g1 g2 => hK a' w' ⟨g1, g2⟩)
end Go.Proofs.Ytjpknhhdkjhjfaa
