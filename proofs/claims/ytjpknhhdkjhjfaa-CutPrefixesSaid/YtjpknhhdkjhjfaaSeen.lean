/- A map from commits to slices of ints that the call makes. -/
import Derived.Test.YtjpknhhdkjhjfaaLog
import Derived.Test.YtjpknhhdkjhjfaaPlain2
import Derived.Maps.OwnSet
import Derived.Maps.OwnOps
namespace Go.Proofs.Ytjpknhhdkjhjfaa
open Go.RowKit Go.Maps
set_option linter.unusedVariables false

theorem keyInt : Keyed Try.prog 3 := int_keyed Try.underlying3
def heldElem (v : Value) : Option (DataW Value × List MemPlace) := match v with
  | .slice A n c => some (.held (.slice A n c), [])
  | _ => none
theorem heldElem_inv {v : Value} {z : DataW Value × List MemPlace} (h : heldElem v = some z) : ∃ A n c, v = .slice A n c ∧ z = (.held (.slice A n c), []) := by
  unfold heldElem at h
  split at h
  · rename_i A n c
    exact ⟨A, n, c, rfl, by injection h with h; exact h.symm⟩
  · cases h
theorem zero34 (w : World) : (zeroValue 34).run Try.prog w = .ok (.slice none 0 0) w := by kernel_rfl

theorem wpList_lookup_seen (w : World) {ops : Array Oper} {rest : List Oper} {o : Oper} {a : Act} {Q : Exit → Act → World → Prop} (hg : o.guard = none) (m x : Operand) (hop : o.op = Op.lookup 62 m x true) (b n : Nat) (D : DataW Value)
    (hm : a.eval m = .map (some b)) (hown : w.ownsMap Try.prog 3 heldElem b n D) (c : Int) (hx : a.eval x = .int .i64 c) (hwf : (Lit.int .i64 c).wf = true)
    (hK : ∀ A k cap, D.atKey (.int .i64 c) (.held (.slice none 0 0)) = .held (.slice A k cap) → wpList Try.prog ops Q rest (a.put o.dst (.tuple #[.slice A k cap, .bool (Maps.has D (.int .i64 c))])) w) :
    wpList Try.prog ops Q (o :: rest) a w :=
  wpList_lookup_own_ok w hg m x 62 hop 3 34 keyInt Try.underlying62 heldElem (zero34 w) (.held (.slice none 0 0)) [] rfl b n D hm hown (.int .i64 c) (.int .i64 c) hx (keyOf_int_mk Try.underlying3 hwf) (fun v ps hv => by
    obtain ⟨A, k, cap, rfl, hz⟩ := heldElem_inv hv
    exact hK A k cap (congrArg Prod.fst hz))

theorem wpList_lookup_found (w : World) {ops : Array Oper} {rest : List Oper} {o : Oper} {a : Act} {Q : Exit → Act → World → Prop} (hg : o.guard = none) (m x : Operand) (hop : o.op = Op.lookup 62 m x true) (b n : Nat) (D : DataW Value)
    (hm : a.eval m = .map (some b)) (hown : w.ownsMap Try.prog 3 heldElem b n D) (c : Int) (hx : a.eval x = .int .i64 c) (hwf : (Lit.int .i64 c).wf = true) (hr : Maps.has D (.int .i64 c) = true) (A : Option Addr) (k cap : Nat)
    (hat : ∀ z, D.atKey (.int .i64 c) z = .held (.slice A k cap)) (hK : wpList Try.prog ops Q rest (a.put o.dst (.tuple #[.slice A k cap, .bool true])) w) :
    wpList Try.prog ops Q (o :: rest) a w :=
  wpList_lookup_seen w hg m x hop b n D hm hown c hx hwf (fun A' k' cap' h => by
    rw [hat] at h
    injection h with h
    injection h with h1 h2 h3
    subst h1 h2 h3
    rw [hr]
    exact hK)
theorem wpList_lookup_absent (w : World) {ops : Array Oper} {rest : List Oper} {o : Oper} {a : Act} {Q : Exit → Act → World → Prop} (hg : o.guard = none) (m x : Operand) (hop : o.op = Op.lookup 62 m x true) (b n : Nat) (D : DataW Value)
    (hm : a.eval m = .map (some b)) (hown : w.ownsMap Try.prog 3 heldElem b n D) (c : Int) (hx : a.eval x = .int .i64 c) (hwf : (Lit.int .i64 c).wf = true) (hr : Maps.has D (.int .i64 c) = false)
    (hK : ∀ A k cap, wpList Try.prog ops Q rest (a.put o.dst (.tuple #[.slice A k cap, .bool false])) w) :
    wpList Try.prog ops Q (o :: rest) a w :=
  wpList_lookup_seen w hg m x hop b n D hm hown c hx hwf (fun A' k' cap' h => by
    rw [hr]
    exact hK A' k' cap')

theorem wpList_update_seen (w : World) {ops : Array Oper} {rest : List Oper} {o : Oper} {a : Act} {Q : Exit → Act → World → Prop} (hg : o.guard = none) (m x v : Operand) (hop : o.op = Op.mapUpdate 62 m x v) (b n : Nat) (D : DataW Value)
    (hm : a.eval m = .map (some b)) (hown : w.ownsMap Try.prog 3 heldElem b n D) (hn : n < maxLen) (c : Int) (hx : a.eval x = .int .i64 c) (hwf : (Lit.int .i64 c).wf = true) (A : Option Addr) (k cap : Nat) (hv : a.eval v = .slice A k cap)
    (hK : ∀ w', w'.ownsMap Try.prog 3 heldElem b (n + 1) (D.put (.int .i64 c) (.held (.slice A k cap))) → w.grownBy w' (some b) → wpList Try.prog ops Q rest (a.put o.dst undef) w') :
    wpList Try.prog ops Q (o :: rest) a w :=
  wpList_mapUpdate_own w hg m x v 62 hop 3 34 keyInt Try.underlying62 heldElem b n D hm hown hn (.int .i64 c) (.slice A k cap) (.int .i64 c) hx hv (keyOf_int_mk Try.underlying3 hwf) _ [] rfl hK

/-- The map holds, for each commit of the stamps that were met, its shards. -/
def Seen (w : World) (S : Nat → Prop) (D : DataW Value) (done : List Stp) : Prop :=
  (∀ c : Int, Maps.has D (.int .i64 c) = true ↔ ∃ s ∈ done, s.1 = c) ∧
  ∀ s ∈ done, ∃ A cap, (∀ z, D.atKey (.int .i64 s.1) z = .held (.slice A s.2.length cap)) ∧ Ints w S A s.2 ∧ s.2.length ≤ 17592186044416

theorem seen_nil (w : World) (S : Nat → Prop) : Seen w S (.map []) [] := ⟨fun c => by simp [Maps.has], fun s hs => by simp at hs⟩
theorem Seen.keep {w w' : World} {S : Nat → Prop} {D : DataW Value} {done : List Stp} (h : Seen w S D done) (hk : Same S w w') : Seen w' S D done :=
  ⟨h.1, fun s hs => by
    obtain ⟨A, cap, h1, h2, h3⟩ := h.2 s hs
    exact ⟨A, cap, h1, h2.keep hk, h3⟩⟩
theorem Seen.put {w : World} {S : Nat → Prop} {D : DataW Value} {done : List Stp} {c : Int} {sh : List Int} {A : Option Addr} {cap : Nat} (h : Seen w S D done) (hD : IsMap D) (hi : Ints w S A sh) (hl : sh.length ≤ 17592186044416) (ha : ∀ t ∈ done, t.1 = c → t.2 = sh) :
    Seen w S (D.put (.int .i64 c) (.held (.slice A sh.length cap))) (done ++ [(c, sh)]) := by
  have hkl : WideAt.IsKeyLit (.int .i64 c) := by simp [WideAt.IsKeyLit]
  refine ⟨fun x => ?_, fun s hs => ?_⟩
  · by_cases hx : x = c
    · subst hx
      rw [has_put_same hD hkl]
      simp
    · rw [has_put_other (by simp [hx])]
      rw [h.1 x]
      constructor
      · rintro ⟨s, hs, e⟩; exact ⟨s, List.mem_append.2 (.inl hs), e⟩
      · rintro ⟨s, hs, e⟩
        rcases List.mem_append.1 hs with h' | h'
        · exact ⟨s, h', e⟩
        · rw [List.mem_singleton.1 h'] at e
          exact absurd e.symm hx
  · by_cases hx : s.1 = c
    · have e2 : s.2 = sh := by
        rcases List.mem_append.1 hs with h' | h'
        · exact ha s h' hx
        · rw [List.mem_singleton.1 h']
      refine ⟨A, cap, fun z => ?_, by rw [e2]; exact hi, by rw [e2]; exact hl⟩
      rw [hx, atKey_put_same hD hkl, e2]
    · rcases List.mem_append.1 hs with h' | h'
      · obtain ⟨A', cap', h1, h2, h3⟩ := h.2 s h'
        exact ⟨A', cap', fun z => by rw [atKey_put_other (by simp [hx])]; exact h1 z, h2, h3⟩
      · rw [List.mem_singleton.1 h'] at hx
        exact absurd rfl hx
end Go.Proofs.Ytjpknhhdkjhjfaa
