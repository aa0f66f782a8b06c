/- Plain: what the functions of table compute. -/
import Derived.Test.YtkpjjfhfbpfjpaaPred
import Derived.Test.YtkpjjfhfbpfjpaaStat
namespace Go.Proofs.Ytkpjjfhfbpfjpaa
set_option linter.unusedVariables false

/-- A table with too much in it. -/
def bigT (t : Tab) : Bool := decide (8 < t.cols.length) || decide (4 < t.refs.length) || decide (4 < t.checks.length)
/-- The first error of checks; pc: the error of one. -/
def chkL (pc : List Int → Pred → Int) (ks : List Int) : List Pred → Int
  | [] => 0
  | p :: r => if pc ks p ≠ 0 then pc ks p else chkL pc ks r
def chkT (pc : List Int → Pred → Int) : List Tab → Int
  | [] => 0
  | t :: r => if chkL pc (t.cols.map (·.kind)) t.checks ≠ 0 then chkL pc (t.cols.map (·.kind)) t.checks else chkT pc r
/-- schema.Check. -/
def schF (pc : List Int → Pred → Int) (s : Sch) : Int :=
  if 8 < s.tabs.length then 2 else if s.tabs.any bigT then 2
  else if s.version < 0 ∨ 1000 < s.version ∨ namedFrom [] s.tabs = false ∨ referFrom s.tabs s.tabs = false then 70 else chkT pc s.tabs
theorem chkL_drop (pc : List Int → Pred → Int) (ks : List Int) (l : List Pred) (k : Nat) (h : k < l.length) : chkL pc ks (l.drop k) = if pc ks (l.getD k p0) ≠ 0 then pc ks (l.getD k p0) else chkL pc ks (l.drop (k + 1)) := by
  rw [List.drop_eq_getElem_cons h]
  have e1 : l.getD k p0 = l[k] := by simp [List.getD, h]
  rw [e1]
  rfl
theorem chkT_drop (pc : List Int → Pred → Int) (l : List Tab) (k : Nat) (h : k < l.length) : chkT pc (l.drop k) = if chkL pc ((l.getD k t0).cols.map (·.kind)) (l.getD k t0).checks ≠ 0 then chkL pc ((l.getD k t0).cols.map (·.kind)) (l.getD k t0).checks else chkT pc (l.drop (k + 1)) := by
  rw [List.drop_eq_getElem_cons h]
  have e1 : l.getD k t0 = l[k] := by simp [List.getD, h]
  rw [e1]
  rfl
theorem big_take (l : List Tab) (k : Nat) (h : k < l.length) : (l.take (k + 1)).any bigT = ((l.take k).any bigT || bigT (l.getD k t0)) := by
  have e1 : l.getD k t0 = l[k] := by simp [List.getD, h]
  rw [List.take_succ_eq_append_getElem h, List.any_append, e1]
  simp
theorem big_true (l : List Tab) (k : Nat) (h : k < l.length) (hb : bigT (l.getD k t0) = true) : l.any bigT = true := by
  have e1 : l.getD k t0 = l[k] := by simp [List.getD, h]
  rw [e1] at hb
  exact List.any_eq_true.2 ⟨_, List.getElem_mem h, hb⟩
theorem named_key : ∀ (l : List Tab) (seen : List ByteArray), namedFrom seen l = true → ∀ t ∈ l, t.key ≤ t.cols.length
  | [], _, _, t, ht => by simp at ht
  | t' :: r, seen, h, t, ht => by
    simp only [namedFrom, Bool.and_eq_true, decide_eq_true_eq] at h
    rcases List.mem_cons.1 ht with rfl | ht
    · exact h.1.1.2
    · exact named_key r _ h.2 t ht
def modeF (e m : Int) : Int := if e ≠ 0 then e else if modeOk m then 0 else 1
/-- The rows of a table, behind a row p if there is one. -/
def rowsOk (s : Sch) (t m : Int) : Option Row → List Row → Bool
  | _, [] => true
  | p, r :: l => fitsF s t r m && (match p with | none => true | some q => decide (cmpR (keyF s t q) (keyF s t r) < 0)) && rowsOk s t m (some r) l
def stOk (s : Sch) (m : Int) : Nat → St → Bool
  | _, [] => true
  | t, l :: r => rowsOk s t m none l && stOk s m (t + 1) r
/-- table.Check where the schema's error is e. -/
def checkF (e : Int) (s : Sch) (m : Int) (st : St) : Int :=
  if modeF e m ≠ 0 then modeF e m else if 512 < countF st then 2 else if st.length ≠ s.tabs.length then 80 else if stOk s m 0 st then 0 else 80
theorem stOk_drop (s : Sch) (m : Int) (st : St) (k : Nat) (h : k < st.length) : stOk s m k (st.drop k) = (rowsOk s k m none (st.getD k []) && stOk s m (k + 1) (st.drop (k + 1))) := by
  rw [List.drop_eq_getElem_cons h]
  have e1 : st.getD k [] = st[k] := by simp [List.getD, h]
  rw [e1]
  rfl
/-- The row before number k. -/
def before (l : List Row) : Nat → Option Row
  | 0 => none
  | k + 1 => some (l.getD k [])
theorem rowsOk_drop (s : Sch) (t m : Int) (l : List Row) (k : Nat) (h : k < l.length) : rowsOk s t m (before l k) (l.drop k) = (fitsF s t (l.getD k []) m && (match before l k with | none => true | some q => decide (cmpR (keyF s t q) (keyF s t (l.getD k [])) < 0)) && rowsOk s t m (before l (k + 1)) (l.drop (k + 1))) := by
  have e1 : l.getD k [] = l[k] := by simp [List.getD, h]
  rw [List.drop_eq_getElem_cons h]
  conv => rhs; rw [show before l (k + 1) = some (l.getD k []) from rfl, e1]
  rfl

/-- The key of a change. -/
def keyC (s : Sch) (c : Chg) : Row := if 0 < c.old.length then keyF s c.table c.old else keyF s c.table c.new
def validC (s : Sch) (m : Int) (c : Chg) : Bool :=
  hasN s.tabs.length c.table && !(decide (c.old.length = 0) && decide (c.new.length = 0)) && (decide (c.old.length = 0) || fitsF s c.table c.old m) && (decide (c.new.length = 0) || fitsF s c.table c.new m)
    && (decide (c.old.length = 0) || decide (c.new.length = 0) || (cmpR (keyF s c.table c.old) (keyF s c.table c.new) == 0))
/-- How many rows are below a key, up to the first that is not. -/
def low (s : Sch) (t : Int) (key : Row) : List Row → Nat
  | [] => 0
  | r :: l => if cmpR (keyF s t r) key < 0 then low s t key l + 1 else 0
/-- The keys of the rows ascend. -/
def Asc (s : Sch) (t : Int) (l : List Row) : Prop := ∀ i j, i < j → j < l.length → cmpR (keyF s t (l.getD i [])) (keyF s t (l.getD j [])) < 0
def foundF (s : Sch) (c : Chg) (l : List Row) : Bool := decide (low s c.table (keyC s c) l < l.length) && (cmpR (keyF s c.table (l.getD (low s c.table (keyC s c) l) [])) (keyC s c) == 0)
def fitsC (s : Sch) (c : Chg) (l : List Row) : Bool := (foundF s c l == decide (0 < c.old.length)) && (!foundF s c l || (cmpR (l.getD (low s c.table (keyC s c) l) []) c.old == 0))
/-- The rows behind a change that fits. -/
def putC (s : Sch) (c : Chg) (l : List Row) : List Row :=
  l.take (low s c.table (keyC s c) l) ++ (if 0 < c.new.length then [c.new] else []) ++ (if foundF s c l then l.drop (low s c.table (keyC s c) l + 1) else l.drop (low s c.table (keyC s c) l))
/-- Changes, one after another; n rows so far. -/
def applyL (s : Sch) (m : Int) : Int → St → List Chg → Int × St
  | _, st, [] => (0, st)
  | n, st, c :: r =>
    if validC s m c = false then (71, [])
    else if fitsC s c (st.getD c.table.toNat []) = false then (81, [])
    else if 512 < n + ((putC s c (st.getD c.table.toNat [])).length - (st.getD c.table.toNat []).length : Int) then (2, [])
    else applyL s m (n + ((putC s c (st.getD c.table.toNat [])).length - (st.getD c.table.toNat []).length : Int)) (st.set c.table.toNat (putC s c (st.getD c.table.toNat []))) r
def applyF (e : Int) (s : Sch) (m : Int) (st : St) (l : List Chg) : Int × St := if checkF e s m st ≠ 0 then (checkF e s m st, []) else applyL s m (countF st) st l

/-! ### The place of a key among ascending rows -/
theorem low_le (s : Sch) (t : Int) (key : Row) : ∀ l : List Row, low s t key l ≤ l.length
  | [] => Nat.le_refl _
  | r :: l => by unfold low; have := low_le s t key l; split <;> simp <;> omega
theorem low_lt (s : Sch) (t : Int) (key : Row) : ∀ (l : List Row) (k : Nat), k < low s t key l → cmpR (keyF s t (l.getD k [])) key < 0
  | [], k, h => by simp [low] at h
  | r :: l, k, h => by
    unfold low at h
    split at h
    · rename_i hr
      cases k with
      | zero => exact hr
      | succ k => exact low_lt s t key l k (by omega)
    · omega
theorem low_ge (s : Sch) (t : Int) (key : Row) : ∀ (l : List Row), low s t key l < l.length → 0 ≤ cmpR (keyF s t (l.getD (low s t key l) [])) key
  | [], h => by simp at h
  | r :: l, h => by
    by_cases hr : cmpR (keyF s t r) key < 0
    · have e : low s t key (r :: l) = low s t key l + 1 := by rw [low, if_pos hr]
      rw [e] at h ⊢
      exact low_ge s t key l (by simpa using h)
    · have e : low s t key (r :: l) = 0 := by rw [low, if_neg hr]
      rw [e]
      simpa using hr
theorem low_iff {s : Sch} {t : Int} {l : List Row} (ha : Asc s t l) (key : Row) {k : Nat} (hk : k < l.length) : cmpR (keyF s t (l.getD k [])) key < 0 ↔ k < low s t key l := by
  constructor
  · intro h
    rcases Nat.lt_or_ge k (low s t key l) with h1 | h1
    · exact h1
    · have h2 := low_ge s t key l (by omega)
      rcases Nat.lt_or_eq_of_le h1 with h3 | h3
      · have h4 := cmpR_is.lt_trans (ha _ _ h3 hk) h
        omega
      · rw [h3] at h2; omega
  · exact low_lt s t key l k
end Go.Proofs.Ytkpjjfhfbpfjpaa
