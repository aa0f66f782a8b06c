/- Words: a set of strings (map[string]bool) that the call has made. -/
import Derived.Test.YtkpjjfhfbpfjpaaFits
import Derived.Maps.Own
import Derived.Maps.Views
namespace Go.Proofs.Ytkpjjfhfbpfjpaa
open Go.RowKit
set_option linter.unusedVariables false

def inS (l : List ByteArray) (s : ByteArray) : Bool := l.any fun x => decide (x.data.toList = s.data.toList)
theorem inS_mem {l : List ByteArray} {s : ByteArray} : inS l s = true ↔ s ∈ l := by
  unfold inS
  rw [List.any_eq_true]
  constructor
  · rintro ⟨x, hx, h⟩
    have h' : x.data.toList = s.data.toList := by simpa using h
    have : x = s := by cases x; cases s; simpa using h'
    rwa [← this]
  · intro h
    exact ⟨s, h, by simp⟩
def SetAt (w : World) (B n : Nat) (l : List ByteArray) : Prop :=
  ∃ D : DataW Unit, w.ownsMap Try.prog 9 (plainElem Try.prog 4) B n D ∧ Maps.IsMap D ∧ ∀ s : ByteArray, D.atKey (.string s.data.toList) (.lit (.bool false)) = .lit (.bool (inS l s))
theorem SetAt.made (w : World) : SetAt (w.alloc (.map #[] 0)) w.heap.size 0 [] := ⟨.map [], World.ownsMap_made w _ _ _, ⟨[], rfl⟩, fun s => by simp [DataW.atKey, inS]⟩
theorem SetAt.kept {w w' : World} {B n : Nat} {l : List ByteArray} {row : Option Nat} (h : SetAt w B n l) (hg : w.grownBy w' row) (hne : some B ≠ row) : SetAt w' B n l := by
  obtain ⟨D, h1, h2, h3⟩ := h
  exact ⟨D, h1.kept hg hne, h2, h3⟩
theorem SetAt.alloc {w : World} {B n : Nat} {l : List ByteArray} (h : SetAt w B n l) (o : Obj) : SetAt (w.alloc o) B n l := by
  obtain ⟨D, h1, h2, h3⟩ := h
  exact ⟨D, h1.alloc o, h2, h3⟩
theorem SetAt.below {w w' : World} {B n K : Nat} {l : List ByteArray} (h : SetAt w B n l) (hg : Below K w w') (hB : B < K) : SetAt w' B n l := by
  obtain ⟨D, ⟨es, clock, hb, F, hs, hD⟩, h2, h3⟩ := h
  exact ⟨D, ⟨es, clock, (hg.block B hB).trans hb, F, hs, hD⟩, h2, h3⟩
theorem SetAt.lt {w : World} {B n : Nat} {l : List ByteArray} (h : SetAt w B n l) : B < w.heap.size := by
  obtain ⟨D, h1, h2, h3⟩ := h
  exact h1.lt
theorem plainElem_bool_inv {H : Type} {P : Program} {e : TypeId} (he : P.underlying e = some .bool) {v : Value} {z : DataW H × List MemPlace} (h : plainElem P e v = some z) : ∃ a, v = .bool a ∧ z = (.lit (.bool a), []) := by
  unfold plainElem at h
  rw [he] at h
  cases v <;> simp at h
  exact ⟨_, rfl, h.symm⟩
theorem SetAt.look {w : World} {B n : Nat} {l : List ByteArray} (h : SetAt w B n l) {s : ByteArray} (hs : s.size ≤ 9223372036854775807) : (Instr.lookup 166 (.map (some B)) (.string s) false).run Try.prog w = .ok (.bool (inS l s)) w := by
  obtain ⟨D, h1, h2, h3⟩ := h
  have hz : (zeroValue 4).run Try.prog w = .ok (.bool false) w := by kernel_rfl
  obtain ⟨v, ps, hrun, hv⟩ := h1.lookup (Maps.string_keyed Try.underlying9) Try.underlying166 hz (plainElem_bool Try.underlying4 false) (WideMaps.keyOf_string_mk Try.underlying9 (s := s) (by unfold maxLen; omega))
  obtain ⟨a, rfl, ha⟩ := plainElem_bool_inv Try.underlying4 hv
  rw [h3 s] at ha
  simp only [Prod.mk.injEq, DataW.lit.injEq, Lit.bool.injEq] at ha
  rw [hrun, ha.1]
theorem SetAt.put {w : World} {B n : Nat} {l : List ByteArray} (h : SetAt w B n l) (hn : n ≤ 1000000) {s : ByteArray} (hs : s.size ≤ 9223372036854775807) :
    ∃ w', (Instr.mapUpdate 166 (.map (some B)) (.string s) (.bool true)).run Try.prog w = .ok () w' ∧ SetAt w' B (n + 1) (s :: l) ∧ w.grownBy w' (some B) := by
  obtain ⟨D, h1, h2, h3⟩ := h
  obtain ⟨w', hrun, ho, hg⟩ := h1.update (Maps.string_keyed Try.underlying9) Try.underlying166 (by unfold maxLen; omega) (WideMaps.keyOf_string_mk Try.underlying9 (s := s) (by unfold maxLen; omega)) (plainElem_bool Try.underlying4 true)
  refine ⟨w', hrun, ⟨_, ho, ?_, fun s' => ?_⟩, hg⟩
  · obtain ⟨es, rfl⟩ := h2
    exact ⟨_, rfl⟩
  · by_cases he : s' = s
    · subst he
      rw [Maps.atKey_put_same h2 (by simp [WideAt.IsKeyLit]) _ _]
      simp [inS]
    · rw [Maps.atKey_put_other (by
        intro e
        apply he
        have e' : s'.data.toList = s.data.toList := by simpa using e
        cases s'; cases s; simpa using e') _ _, h3 s']
      have : inS (s :: l) s' = inS l s' := by
        have : decide (s.data.toList = s'.data.toList) = false := by
          simp only [decide_eq_false_iff_not]
          intro e
          apply he
          cases s'; cases s; simpa using e.symm
        simp only [inS, List.any_cons, this, Bool.false_or]
      rw [this]
theorem wpList_set_put (w : World) {ops : Array Oper} {rest : List Oper} {o : Oper} {a : Act} {Q : Exit → Act → World → Prop}
    (hg : o.guard = none) (m x v : Operand) (hop : o.op = Op.mapUpdate 166 m x v) (B n : Nat) (l : List ByteArray) (s : ByteArray)
    (hm : a.eval m = .map (some B)) (hx : a.eval x = .string s) (hv : a.eval v = .bool true) (h : SetAt w B n l) (hn : n ≤ 1000000) (hs : s.size ≤ 9223372036854775807)
    (hK : ∀ w', SetAt w' B (n + 1) (s :: l) → w.grownBy w' (some B) → wpList Try.prog ops Q rest (a.put o.dst undef) w') :
    wpList Try.prog ops Q (o :: rest) a w := by
  refine wpList_plain hg fun K' hK' => ?_
  obtain ⟨w', hrun, r1, r2⟩ := h.put hn hs
  unfold Oper.wp
  simp [execOp, hop, hm, hx, hv, hrun, Result.andThen]
  exact hK' _ _ (hK w' r1 r2)
end Go.Proofs.Ytkpjjfhfbpfjpaa
