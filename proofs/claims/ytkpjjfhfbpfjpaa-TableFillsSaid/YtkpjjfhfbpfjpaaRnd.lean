/- A region that draws its order inside a round of a range over a function, at the wide fence. -/
import Derived.Test.YtkpjjfhfbpfjpaaUntil
import Derived.RangeFuncBox
import Derived.RangeFuncNested
import Derived.RangeFuncLeaves
import Derived.RangeFuncCalls
import Derived.RangeFuncBound
import Derived.Shelf.Abstract
import Derived.OwnWalkIn
import Derived.TacticsInMore
import Derived.LoopNIn
import Derived.LoopIn
namespace Go.Proofs.Ytkpjjfhfbpfjpaa
open Go Go.RowKit
set_option linter.unusedVariables false

def noDefer (ops : Array Oper) : Bool := ops.all fun o => match o.op with | .defer _ => false | _ => true
theorem noDefer_spec {ops : Array Oper} (h : noDefer ops = true) {i : Nat} {o : Oper} (ho : ops[i]? = some o) : ∀ c, o.op ≠ .defer c := by
  intro c e
  unfold noDefer at h
  rw [Array.all_eq_true] at h
  obtain ⟨hi, e2⟩ := Array.getElem?_eq_some_iff.1 ho
  have := h i hi
  rw [e2, e] at this
  cases this
theorem uponIn_wide {l n : Nat} {P : Program} {o : Oper} {a : Act} {K : Act → World → Prop} {Q : Exit → Act → World → Prop} {r : Result Next} (h : o.upon P a K Q r) : o.uponIn (Fence.wide.inRound l) n P a K Q r := by
  match r, h with
  | .ok (.value v) w', h => exact h
  | .ok .skip w', h => exact h
  | .ok (.defer d) w', h => exact h
  | .ok (.enter f args) w', h => exact ⟨fun hd => by simp [Fence.wide] at hd, CallsIn.inRound l (callsIn_wide.2 h)⟩
  | .ok (.row row args) w', h => exact ⟨fun hd => by simp [Fence.wide] at hd, rows_wide h⟩
  | .halt (.panic v) w', h => exact h
where
  rows_wide {l n : Nat} {P : Program} {row : String} {args : Array Value} {w : World} {R : Value → World → Prop} (h : Rows P row args w R) : RowsIn (Fence.wide.inRound l) n P row args w R :=
    fun c cs _ => let ⟨v, w', r, s⟩ := h c cs; ⟨v, w', r, stepsIn_wide.2 s⟩
theorem wpOpIn_wide {l n : Nat} {P : Program} {ops : Array Oper} {Q : Exit → Act → World → Prop} {i : Nat} {K : Act → World → Prop} {a : Act} {w : World} (hnd : noDefer ops = true) (hl : ¬ LetsOut Q) (h : wpOp P ops Q i K a w) : wpOpIn (Fence.wide.inRound l) n P ops Q i K a w := by
  unfold wpOp at h
  unfold wpOpIn
  cases ho : ops[i]? with
  | none => rw [ho] at h; exact h
  | some o =>
    rw [ho] at h
    simp only at h ⊢
    split
    · rename_i hw
      rw [if_pos hw] at h
      have h := h.resolve_right (fun h => hl h.2)
      refine ⟨fun f _ => trivial, ?_⟩
      rw [Oper.semAt_eq _ _ _ (noDefer_spec hnd ho)]
      exact uponIn_wide h
    · rename_i hw
      rw [if_neg hw] at h
      exact ⟨fun f _ => trivial, h⟩
theorem wpAnyIn_wide {l n : Nat} {P : Program} {md : Region.Mode} {ops : Array Oper} {Q : Exit → Act → World → Prop} (hnd : noDefer ops = true) (hl : ¬ LetsOut Q) : ∀ (k : Nat) (L : Array Bool) (a : Act) (w : World), wpAny P md ops Q k L a w → wpAnyIn (Fence.wide.inRound l) n P md ops Q k L a w
  | 0, _, _, _, h => h
  | k + 1, L, a, w, h => ⟨h.1, fun i hi => wpOpIn_wide hnd hl (wpOp_mono (fun a' w' h' => wpAnyIn_wide hnd hl k _ a' w' h') (h.2 i hi))⟩
theorem regionR_until {l m : Nat} {P : Program} {ops : Array Oper} {Q : Exit → Act → World → Prop} {id : Nat} {a : Act} {w : World} (S : World → Prop) (d n : Nat) (L : Array Bool) (hm : P.follows .mixedOrders = true) (hn : ops.size = n) (hL : Array.replicate ops.size false = L) (hnd : noDefer ops = true) (hl : ¬ LetsOut Q)
    (h : AnyU P .any ops Q S d n L a w.drew) : (Code.region id ops true).wpIn (Fence.wide.inRound l) m P Q a w :=
  wpIn_region_any hm (wpAnyIn_wide hnd hl _ _ _ _ (anyU_any _ _ _ _ (by rw [hL, hn]; exact h)))
theorem hideQIn {F : Fence} {n : Nat} {P : Program} {c : Code} {Q : Exit → Act → World → Prop} {a : Act} {w : World} (hl : ¬ LetsOut Q) (hp : ∀ c a d v w, Q (.panic c) (Act.put a d v) w → Q (.panic c) a w) (h : ∀ Q', Hid (Q' = Q) → Hid (∀ c a d v w, Q' (.panic c) (Act.put a d v) w → Q' (.panic c) a w) → Hid (¬ LetsOut Q') → c.wpIn F n P Q' a w) : c.wpIn F n P Q a w := h Q (Lib.hid rfl) (Lib.hid hp) (Lib.hid hl)
end Go.Proofs.Ytkpjjfhfbpfjpaa
