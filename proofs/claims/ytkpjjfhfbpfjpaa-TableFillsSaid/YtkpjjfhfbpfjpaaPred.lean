/- Predicates in memory. Contracts: predicate.columnKinds, predicate.small. -/
import Derived.Test.YtkpjjfhfbpfjpaaRefr
namespace Go.Proofs.Ytkpjjfhfbpfjpaa
open Go.RowKit
set_option linter.unusedVariables false

/-- By value a struct is FLAT: the fields of an inner struct stand among the outer one's. -/
abbrev oAgg (o : Opd) : Value := .agg #[.int .i64 o.kind, .int .i64 o.index, .int .i64 o.value.k, .int .i64 o.value.i, .string o.value.t]
abbrev pAgg (op cmp : Int) (l r : Opd) (A : Option Addr) (n c : Nat) : Value := .agg #[.int .i64 op, .int .i64 cmp, .int .i64 l.kind, .int .i64 l.index, .int .i64 l.value.k, .int .i64 l.value.i, .string l.value.t, .int .i64 r.kind, .int .i64 r.index, .int .i64 r.value.k, .int .i64 r.value.i, .string r.value.t, .slice A n c]
abbrev p0 : Pred := .mk 0 0 ⟨0, 0, v0⟩ ⟨0, 0, v0⟩ []
def Pred.op : Pred → Int | .mk op _ _ _ _ => op
def Pred.cmp : Pred → Int | .mk _ c _ _ _ => c
def Pred.left : Pred → Opd | .mk _ _ l _ _ => l
def Pred.right : Pred → Opd | .mk _ _ _ r _ => r
def Pred.args : Pred → List Pred | .mk _ _ _ _ a => a
/-- The cells of a predicate. -/
structure PredAt (w : World) (S : Nat → Prop) (b off : Nat) (op cmp : Int) (l r : Opd) (args : List Pred) (A : Option Addr) (c : Nat) : Prop where
  fop : w.cell? ⟨b, off, none⟩ = some (.int .i64 op)
  fcmp : w.cell? ⟨b, off + 1, none⟩ = some (.int .i64 cmp)
  lk : w.cell? ⟨b, off + 2, none⟩ = some (.int .i64 l.kind)
  li : w.cell? ⟨b, off + 3, none⟩ = some (.int .i64 l.index)
  lvk : w.cell? ⟨b, off + 4, none⟩ = some (.int .i64 l.value.k)
  lvi : w.cell? ⟨b, off + 5, none⟩ = some (.int .i64 l.value.i)
  lvt : w.cell? ⟨b, off + 6, none⟩ = some (.string l.value.t)
  rk : w.cell? ⟨b, off + 7, none⟩ = some (.int .i64 r.kind)
  ri : w.cell? ⟨b, off + 8, none⟩ = some (.int .i64 r.index)
  rvk : w.cell? ⟨b, off + 9, none⟩ = some (.int .i64 r.value.k)
  rvi : w.cell? ⟨b, off + 10, none⟩ = some (.int .i64 r.value.i)
  rvt : w.cell? ⟨b, off + 11, none⟩ = some (.string r.value.t)
  fargs : w.cell? ⟨b, off + 12, none⟩ = some (.slice A args.length c)
  pS : PredS w S A args
  pc : args.length ≤ c
  lt : l.value.t.size ≤ 9223372036854775807
  rt : r.value.t.size ≤ 9223372036854775807
theorem PredS.at_ {w : World} {S : Nat → Prop} {A : Option Addr} {l : List Pred} (h : PredS w S A l) {k : Nat} (hk : k < l.length) : ∃ b off, A = some ⟨b, off, none⟩ ∧ S b ∧ ∃ op cmp lf rt args A' c, l.getD k p0 = .mk op cmp lf rt args ∧ PredAt w S b (off + k * 13) op cmp lf rt args A' c := by
  obtain ⟨b, off, e, hb, h1⟩ := Sl.at_ encPred_size p0 h hk
  cases hp : l.getD k p0 with
  | mk op cmp lf rt args =>
    rw [hp] at h1
    simp only [encPred, encOpd, encV, Dat.Held, Dat.HeldAll, Dat.size, Dat.sizes, and_true, litOk_int, litOk_string, Nat.add_assoc, Nat.reduceAdd, Nat.add_zero] at h1
    obtain ⟨a1, a2, ⟨a3, a4, a5, a6, a7, a7'⟩, ⟨b3, b4, b5, b6, b7, b7'⟩, A', c, d1, d2, d3, d4⟩ := h1
    rw [encPreds_map] at d1 d2 d3 d4
    rw [List.length_map] at d1 d2
    exact ⟨b, off, e, hb, op, cmp, lf, rt, args, A', c, rfl, a1, a2, a3, a4, a5, a6, a7, b3, b4, b5, b6, b7, d1, ⟨d3, d4⟩, d2, a7', b7'⟩

/-! ### columnKinds -/
def kindsOk : List Int → Bool
  | [] => true
  | k :: r => colKind k && kindsOk r
theorem kindsOk_drop (l : List Int) (k : Nat) (h : k < l.length) : kindsOk (l.drop k) = (colKind (l.getD k 0) && kindsOk (l.drop (k + 1))) := by
  rw [List.drop_eq_getElem_cons h]
  have e1 : l.getD k 0 = l[k] := by simp [List.getD, h]
  rw [e1]
  rfl
set_option maxHeartbeats 1000000 in
theorem columnKinds_any (A : Option Addr) (ca : Nat) (l : List Int) (S : Nat → Prop) (w : World) (h : IntS w S A l) : Calls Try.prog 128 #[.slice A l.length ca] w (fun e w' => e = .returned (.bool (kindsOk l)) ∧ w' = w) := by
  have hl := h.len
  have HI := Lib.hid h
  clear h
  go_enter Try.func128, Try.ntmps128
  go_wp2_with fail
  go_loopw [7] (fun i wr => ∃ k : Nat, k ≤ l.length ∧ i = .int .i64 k ∧ kindsOk l = kindsOk (l.drop k) ∧ wr = w) (fun i _ => l.length - (intOf i).toNat)
  case atStart => exact ⟨0, Nat.zero_le _, rfl, by simp, rfl⟩
  case round =>
    obtain ⟨k, hk, rfl, ht, rfl⟩ := hrel
    have HT := Lib.hid ht
    clear ht
    by_cases hkl : k < l.length
    · obtain ⟨b1, o1, rfl, hb1, d1⟩ := HI.out.at_ hkl
      have HSTEP := Lib.hid (kindsOk_drop l k hkl)
      generalize l.getD k 0 = ck at d1 HSTEP
      by_cases h3 : ck = 3
      · subst h3
        go_wp2_with fail
        go_roundw
        case rel => exact ⟨k + 1, by omega, by go_num, by rw [HT.out, HSTEP.out]; rfl, trivial⟩
        case measure => simp [intOf]; omega
      · have e3 : (ck != 3) = true := by simp [h3]
        by_cases h4 : ck = 4
        · subst h4
          go_wp2_with fail
          go_roundw
          case rel => exact ⟨k + 1, by omega, by go_num, by rw [HT.out, HSTEP.out]; rfl, trivial⟩
          case measure => simp [intOf]; omega
        · have e4 : (ck != 4) = true := by simp [h4]
          by_cases h5 : ck = 5
          · subst h5
            go_wp2_with fail
            go_roundw
            case rel => exact ⟨k + 1, by omega, by go_num, by rw [HT.out, HSTEP.out]; rfl, trivial⟩
            case measure => simp [intOf]; omega
          · have e5 : (ck != 5) = true := by simp [h5]
            have HV := Lib.hid (show colKind ck = false by simp [colKind, h3, h4, h5])
            go_wp2_with fail
            go_ret
            exact ⟨by rw [HT.out, HSTEP.out, HV.out]; rfl, rfl⟩
    · have HF := Lib.hid (show kindsOk l = true by rw [HT.out, show k = l.length by omega, List.drop_length]; rfl)
      go_wp2_with fail
      go_ret
      exact ⟨by rw [HF.out]; rfl, rfl⟩

/-! ### small -/
mutual
def smallP : Pred → Int → Int → Bool × Int
  | .mk _ _ _ _ args, lv, b => if b - 1 < 0 ∨ 8 < lv then (false, b - 1) else smallL args (lv + 1) (b - 1)
def smallL : List Pred → Int → Int → Bool × Int
  | [], _, b => (true, b)
  | p :: r, lv, b => if (smallP p lv b).1 then smallL r lv (smallP p lv b).2 else (false, (smallP p lv b).2)
end
mutual
theorem smallP_le : ∀ (p : Pred) (lv b : Int), 0 ≤ b → (smallP p lv b).2 ≤ b ∧ ((smallP p lv b).1 = true → 0 ≤ (smallP p lv b).2)
  | .mk _ _ _ _ args, lv, b, hb => by
    unfold smallP
    split
    · exact ⟨by simp; omega, fun h => by cases h⟩
    · have := smallL_le args (lv + 1) (b - 1) (by omega)
      exact ⟨by omega, this.2⟩
theorem smallL_le : ∀ (l : List Pred) (lv b : Int), 0 ≤ b → (smallL l lv b).2 ≤ b ∧ ((smallL l lv b).1 = true → 0 ≤ (smallL l lv b).2)
  | [], lv, b, hb => by unfold smallL; exact ⟨Int.le_refl _, fun _ => hb⟩
  | p :: r, lv, b, hb => by
    have h1 := smallP_le p lv b hb
    unfold smallL
    split
    · rename_i h
      have h2 := smallL_le r lv _ (h1.2 h)
      exact ⟨by omega, h2.2⟩
    · exact ⟨h1.1, fun h => by cases h⟩
end
theorem smallL_drop (l : List Pred) (lv b : Int) (k : Nat) (h : k < l.length) : smallL (l.drop k) lv b = if (smallP (l.getD k p0) lv b).1 then smallL (l.drop (k + 1)) lv (smallP (l.getD k p0) lv b).2 else (false, (smallP (l.getD k p0) lv b).2) := by
  rw [List.drop_eq_getElem_cons h]
  have e1 : l.getD k p0 = l[k] := by simp [List.getD, h]
  rw [e1]
  conv => lhs; unfold smallL
def SmallPost (g : Nat) (r : Bool × Int) (w : World) (e : Ending) (w' : World) : Prop := e = .returned (.bool r.1) ∧ w'.heap[g]? = some (.cells #[.int .i64 r.2] 3 (0, 0)) ∧ w.grownBy w' (some g)
end Go.Proofs.Ytkpjjfhfbpfjpaa
