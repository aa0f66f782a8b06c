import Derived.Test.YtkpjjfhfbpfjpaaKa970ca
import Derived.Test.YtkpjjfhfbpfjpaaK30befc
import Derived.Test.YtkpjjfhfbpfjpaaK9bc357
import Derived.Test.YtkpjjfhfbpfjpaaK4e30bf
set_option linter.unusedVariables false
set_option linter.unusedSimpArgs false
set_option maxRecDepth 100000
namespace Go.Proofs.Ytkpjjfhfbpfjpaa
def idxKind (l : List Int) (o : Opd) : Int := if o.index < 0 ∨ (l.length : Int) ≤ o.index ∨ o.value ≠ v0 then 0 else l.getD o.index.toNat 0
def opdKind (cols params : List Int) (o : Opd) : Int :=
 if o.kind = 3 then (if o.index ≠ 0 ∨ realV o.value = false then 0 else o.value.k)
 else if o.kind = 2 then idxKind params o else if o.kind = 1 then idxKind cols o else 0
def zeroO (o : Opd) : Bool := decide (o.kind = 0) && decide (o.index = 0) && decide (o.value = v0)
def bareP (cmp : Int) (l r : Opd) : Bool := decide (cmp = 0) && zeroO l && zeroO r
mutual
def predOk (cols params : List Int) : Pred → Bool
 | .mk op cmp l r args =>
  if op = 3 then decide (args.length = 0) && decide (1 ≤ cmp) && decide (cmp ≤ 6) && decide (opdKind cols params l ≠ 0) && decide (opdKind cols params l = opdKind cols params r)
  else if op = 1 ∨ op = 2 then decide (args.length = 0) && bareP cmp l r
  else if op = 6 then decide (args.length = 1) && bareP cmp l r && predsOk cols params args
  else if op = 4 ∨ op = 5 then bareP cmp l r && predsOk cols params args
  else false
def predsOk (cols params : List Int) : List Pred → Bool
 | [] => true
 | p :: r => predOk cols params p && predsOk cols params r
end
theorem predsOk_drop (cols params : List Int) (l : List Pred) (k : Nat) (h : k < l.length) : predsOk cols params (l.drop k) = (predOk cols params (l.getD k p0) && predsOk cols params (l.drop (k + 1))) := by
 rw [List.drop_eq_getElem_cons h]
 have e1 : l.getD k p0 = l[k] := by simp [List.getD, h]
 rw [e1]
 conv => lhs; unfold predsOk
theorem predsOk_all (cols params : List Int) : ∀ l : List Pred, (∀ p ∈ l, predOk cols params p = true) → predsOk cols params l = true
 | [], _ => by unfold predsOk; rfl
 | p :: r, h => by
  unfold predsOk
  rw [h p (by simp), predsOk_all cols params r (fun q hq => h q (by simp [hq]))]
  rfl
def pcFF (ks ps : List Int) (p : Pred) : Int := if kindsOk ks = false ∨ kindsOk ps = false then 1 else if (smallP p 1 24).1 = false then 2 else if predOk ks ps p = false then 50 else 0
abbrev pcF (ks : List Int) (p : Pred) : Int := pcFF ks [] p
mutual
def cntP : Pred → Nat
 | .mk _ _ _ _ a => 1 + cntL a
def cntL : List Pred → Nat
 | [] => 0
 | p :: r => cntP p + cntL r
end
mutual
def depP : Pred → Nat
 | .mk _ _ _ _ a => 1 + depL a
def depL : List Pred → Nat
 | [] => 0
 | p :: r => max (depP p) (depL r)
end
mutual
theorem smallP_spec : ∀ (p : Pred) (lv b : Int), 0 ≤ b → 1 ≤ lv → lv ≤ 9 → ((cntP p : Int) ≤ b ∧ lv - 1 + depP p ≤ 8 → smallP p lv b = (true, b - cntP p)) ∧ (¬ ((cntP p : Int) ≤ b ∧ lv - 1 + depP p ≤ 8) → (smallP p lv b).1 = false)
 | .mk _ _ _ _ a, lv, b, hb, h1, h9 => by
  unfold cntP depP smallP
  by_cases hc : b - 1 < 0 ∨ 8 < lv
  · rw [if_pos hc]
    refine ⟨fun h => ?_, fun _ => rfl⟩
    omega
  · rw [if_neg hc]
    have h := smallL_spec a (lv + 1) (b - 1) (by omega) (by omega) (by omega)
    refine ⟨fun hh => ?_, fun hh => h.2 (by omega)⟩
    rw [h.1 (by omega)]
    congr 1
    omega
theorem smallL_spec : ∀ (l : List Pred) (lv b : Int), 0 ≤ b → 1 ≤ lv → lv ≤ 9 → ((cntL l : Int) ≤ b ∧ lv - 1 + depL l ≤ 8 → smallL l lv b = (true, b - cntL l)) ∧ (¬ ((cntL l : Int) ≤ b ∧ lv - 1 + depL l ≤ 8) → (smallL l lv b).1 = false)
 | [], lv, b, hb, h1, h9 => by
  unfold cntL depL smallL
  exact ⟨fun _ => by simp, fun h => by omega⟩
 | p :: r, lv, b, hb, h1, h9 => by
  unfold cntL depL smallL
  have hp := smallP_spec p lv b hb h1 h9
  by_cases hc : (cntP p : Int) ≤ b ∧ lv - 1 + depP p ≤ 8
  · rw [hp.1 hc]
    simp only [if_true]
    have h := smallL_spec r lv (b - cntP p) (by omega) h1 h9
    refine ⟨fun hh => ?_, fun hh => h.2 (by omega)⟩
    rw [h.1 (by omega)]
    congr 1
    omega
  · have := hp.2 hc
    rw [this]
    simp only [Bool.false_eq_true, if_false]
    exact ⟨fun hh => by omega, fun _ => trivial⟩
end
theorem small_iff (p : Pred) : (smallP p 1 24).1 = (decide (cntP p ≤ 24) && decide (depP p ≤ 8)) := by
 have h := smallP_spec p 1 24 (by omega) (by omega) (by omega)
 by_cases hc : (cntP p : Int) ≤ 24 ∧ (1 : Int) - 1 + depP p ≤ 8
 · rw [h.1 hc]
   have h1 : cntP p ≤ 24 := by omega
   have h2 : depP p ≤ 8 := by omega
   simp [h1, h2]
 · rw [h.2 hc]
   by_cases h1 : cntP p ≤ 24
   · have h2 : ¬ depP p ≤ 8 := by omega
     simp [h2]
   · simp [h1]
def GenP (cols params : List Int) (n d : Nat) (p : Pred) : Prop := predOk cols params p = true ∧ cntP p ≤ n ∧ depP p ≤ d
theorem GenP.ok {ks ps : List Int} {n d : Nat} {p : Pred} (h : GenP ks ps n d p) (hn : n ≤ 24) (hd : d ≤ 8) (hk : kindsOk ks = true) (hp : kindsOk ps = true) : pcFF ks ps p = 0 := by
 unfold pcFF
 rw [small_iff, h.1, hk, hp]
 have h1 : cntP p ≤ 24 := Nat.le_trans h.2.1 hn
 have h2 : depP p ≤ 8 := Nat.le_trans h.2.2 hd
 simp [h1, h2]
theorem genL {ks ps : List Int} {n d : Nat} : ∀ l : List Pred, (∀ p ∈ l, GenP ks ps n d p) → cntL l ≤ l.length * n ∧ depL l ≤ d
 | [], _ => by simp [cntL, depL]
 | p :: r, h => by
  have h1 := h p (by simp)
  have h2 := genL r (fun q hq => h q (by simp [hq]))
  unfold cntL depL
  rw [List.length_cons, Nat.succ_mul]
  exact ⟨by have := h1.2.1; omega, by have := h1.2.2; omega⟩
theorem GenP.node {ks ps : List Int} {n d m : Nat} {op : Int} {l : List Pred} (h : ∀ p ∈ l, GenP ks ps n d p) (hl : l.length ≤ m) (hop : (op = 6 ∧ l.length = 1) ∨ op = 4 ∨ op = 5) : GenP ks ps (1 + m * n) (d + 1) (.mk op 0 ⟨0, 0, v0⟩ ⟨0, 0, v0⟩ l) := by
 have hg := genL l h
 have hb : bareP 0 ⟨0, 0, v0⟩ ⟨0, 0, v0⟩ = true := by decide
 have hk := predsOk_all ks ps l (fun p hp => (h p hp).1)
 have hm : l.length * n ≤ m * n := Nat.mul_le_mul_right n hl
 refine ⟨?_, by unfold cntP; omega, by unfold depP; omega⟩
 unfold predOk
 rcases hop with ⟨rfl, h1⟩ | rfl | rfl
 · simp [hb, hk, h1]
 · simp [hb, hk]
 · simp [hb, hk]
theorem GenP.leaf {ks ps : List Int} {op : Int} (hop : op = 1 ∨ op = 2) : GenP ks ps 1 1 (.mk op 0 ⟨0, 0, v0⟩ ⟨0, 0, v0⟩ []) := by
 have hb : bareP 0 ⟨0, 0, v0⟩ ⟨0, 0, v0⟩ = true := by decide
 refine ⟨?_, by unfold cntP cntL; omega, by unfold depP depL; omega⟩
 unfold predOk
 rcases hop with rfl | rfl <;> simp [hb]
theorem GenP.cmp {ks ps : List Int} {c k : Int} {l r : Opd} (h1 : 1 ≤ c) (h6 : c ≤ 6) (hk : k ≠ 0) (hl : opdKind ks ps l = k) (hr : opdKind ks ps r = k) : GenP ks ps 1 1 (.mk 3 c l r []) := by
 refine ⟨?_, by unfold cntP cntL; omega, by unfold depP depL; omega⟩
 unfold predOk
 simp [h1, h6, hl, hr, hk]
theorem GenP.more {ks ps : List Int} {n n' d d' : Nat} {p : Pred} (h : GenP ks ps n d p) (hn : n ≤ n') (hd : d ≤ d') : GenP ks ps n' d' p := ⟨h.1, Nat.le_trans h.2.1 hn, Nat.le_trans h.2.2 hd⟩
abbrev nProjects : ByteArray := ⟨#[112, 114, 111, 106, 101, 99, 116, 115]⟩
abbrev nId : ByteArray := ⟨#[105, 100]⟩
abbrev nOwner : ByteArray := ⟨#[111, 119, 110, 101, 114]⟩
abbrev nTasks : ByteArray := ⟨#[116, 97, 115, 107, 115]⟩
abbrev nProject : ByteArray := ⟨#[112, 114, 111, 106, 101, 99, 116]⟩
abbrev nTitle : ByteArray := ⟨#[116, 105, 116, 108, 101]⟩
abbrev nDone : ByteArray := ⟨#[100, 111, 110, 101]⟩
abbrev nMembers : ByteArray := ⟨#[109, 101, 109, 98, 101, 114, 115]⟩
abbrev nPerson : ByteArray := ⟨#[112, 101, 114, 115, 111, 110]⟩
abbrev nArchived : ByteArray := ⟨#[97, 114, 99, 104, 105, 118, 101, 100]⟩
abbrev nTask : ByteArray := ⟨#[116, 97, 115, 107]⟩
def gCols1 : List Col := [⟨nId, 4⟩, ⟨nOwner, 4⟩]
def gCols2 (id : Int) : List Col := [⟨nId, id⟩, ⟨nProject, 4⟩, ⟨nTitle, 5⟩, ⟨nDone, 3⟩]
def gCols3 : List Col := [⟨nProject, 4⟩, ⟨nPerson, 4⟩]
def gCols4 (id : Int) : List Col := [⟨nTask, id⟩]
def genTabs (id : Int) (r1 r2 r3 : List Rfr) (chk : List Pred) : List Tab :=
 [⟨nProjects, gCols1, 1, [], []⟩, ⟨nTasks, gCols2 id, 1, r1, chk⟩, ⟨nMembers, gCols3, 2, r2, []⟩, ⟨nArchived, gCols4 id, 1, r3, []⟩]
abbrev rf0 (b : Bool) (c t : Int) : List Rfr := if b then [⟨[c], t⟩] else []
structure GenSp (s : Sch) (n : Nat) (v id : Int) (b1 b2 b3 : Bool) (chk : List Pred) : Prop where
 eq : s = ⟨v, (genTabs id (rf0 b1 1 0) (rf0 b2 0 0) (rf0 b3 0 1) chk).take n⟩
 n2 : 2 ≤ n
 n4 : n ≤ 4
 ver0 : 0 ≤ v
 ver2 : v ≤ 2
 idk : id = 4 ∨ id = 5
 c1 : chk.length ≤ 1
 cp : ∀ p ∈ chk, GenP [id, 4, 5, 3] [] 4 2 p
def GenS (s : Sch) : Prop := ∃ n v id b1 b2 b3 chk, GenSp s n v id b1 b2 b3 chk
theorem GenS.check {s : Sch} (h : GenS s) : schF pcF s = 0 := by
 obtain ⟨n, v, id, b1, b2, b3, chk, rfl, h2, h4, hv0, hv2, hid, hc1, hcp⟩ := h
 have hchk : chkL pcF [id, 4, 5, 3] chk = 0 := by
  match chk, hc1, hcp with
  | [], _, _ => rfl
  | [p], _, hcp =>
   have := (hcp p (by simp)).ok (by omega) (by omega) (by rcases hid with rfl | rfl <;> rfl) (show kindsOk [] = true from rfl)
   simp [chkL, this]
 have hn1 : ∀ n, 2 ≤ n → n ≤ 4 → namedFrom [] ((genTabs id (rf0 b1 1 0) (rf0 b2 0 0) (rf0 b3 0 1) chk).take n) = true := by
  intro n h2 h4
  have hn : n = 2 ∨ n = 3 ∨ n = 4 := by omega
  rcases hid with rfl | rfl <;> rcases hn with rfl | rfl | rfl <;> rfl
 have hbig : ((genTabs id (rf0 b1 1 0) (rf0 b2 0 0) (rf0 b3 0 1) chk).take n).any bigT = false := by
  have hc4 : ¬ 4 < chk.length := by omega
  have hn : n = 2 ∨ n = 3 ∨ n = 4 := by omega
  rcases hn with rfl | rfl | rfl <;> cases b1 <;> cases b2 <;> cases b3 <;> simp [genTabs, bigT, gCols1, gCols2, gCols3, gCols4, hc4, rf0]
 have href : referFrom ((genTabs id (rf0 b1 1 0) (rf0 b2 0 0) (rf0 b3 0 1) chk).take n) ((genTabs id (rf0 b1 1 0) (rf0 b2 0 0) (rf0 b3 0 1) chk).take n) = true := by
  have hn : n = 2 ∨ n = 3 ∨ n = 4 := by omega
  rcases hn with rfl | rfl | rfl <;> cases b1 <;> cases b2 <;> cases b3 <;> rcases hid with rfl | rfl <;> rfl
 have hl : ((genTabs id (rf0 b1 1 0) (rf0 b2 0 0) (rf0 b3 0 1) chk).take n).length ≤ 4 := by simp [genTabs]; omega
 have hct : chkT pcF ((genTabs id (rf0 b1 1 0) (rf0 b2 0 0) (rf0 b3 0 1) chk).take n) = 0 := by
  have hn : n = 2 ∨ n = 3 ∨ n = 4 := by omega
  rcases hn with rfl | rfl | rfl <;> simp [genTabs, chkT, chkL, gCols2, hchk]
 unfold schF
 rw [if_neg (show ¬ 8 < (Sch.tabs ⟨v, (genTabs id (rf0 b1 1 0) (rf0 b2 0 0) (rf0 b3 0 1) chk).take n⟩).length by show ¬ 8 < List.length (List.take n _); omega)]
 rw [show (Sch.tabs ⟨v, (genTabs id (rf0 b1 1 0) (rf0 b2 0 0) (rf0 b3 0 1) chk).take n⟩).any bigT = false from hbig]
 simp only [Bool.false_eq_true, if_false]
 rw [if_neg (by rw [hn1 n h2 h4, href]; simp; omega)]
 exact hct
end Go.Proofs.Ytkpjjfhfbpfjpaa

namespace Go.Proofs.Ytkpjjfhfbpfjpaa
def foundL (s : Sch) (t : Int) (key : Row) (l : List Row) : Bool := decide (low s t key l < l.length) && (cmpR (keyF s t (l.getD (low s t key l) [])) key == 0)
def putL (s : Sch) (t : Int) (key row : Row) (l : List Row) : List Row :=
 l.take (low s t key l) ++ (if 0 < row.length then [row] else []) ++ (if foundL s t key l then l.drop (low s t key l + 1) else l.drop (low s t key l))
theorem putC_eq (s : Sch) (c : Chg) (l : List Row) : putC s c l = putL s c.table (keyC s c) c.new l := rfl
theorem foundC_eq (s : Sch) (c : Chg) (l : List Row) : foundF s c l = foundL s c.table (keyC s c) l := rfl
structure Cut (s : Sch) (t : Int) (key : Row) (l a : List Row) (o : Option Row) (b : List Row) : Prop where
 eq : l = a ++ o.toList ++ b
 below : ∀ x ∈ a, cmpR (keyF s t x) key < 0
 at_ : ∀ r, o = some r → keyF s t r = key
 above : ∀ y ∈ b, cmpR key (keyF s t y) < 0
section
variable {s : Sch} {t : Int} {key : Row} {l a b : List Row} {o : Option Row}
theorem low_app {l' : List Row} : ∀ {a : List Row}, (∀ x ∈ a, cmpR (keyF s t x) key < 0) → low s t key (a ++ l') = a.length + low s t key l'
 | [], _ => by simp
 | x :: a, h => by
  have ih := low_app (l' := l') (a := a) (fun y hy => h y (by simp [hy]))
  rw [List.cons_append, low, if_pos (h x (by simp)), ih, List.length_cons]; omega
theorem Cut.low (h : Cut s t key l a o b) : low s t key l = a.length := by
 rw [h.eq, List.append_assoc, low_app h.below]
 have : Go.Proofs.Ytkpjjfhfbpfjpaa.low s t key (o.toList ++ b) = 0 := by
  cases o with
  | some r =>
   have := h.at_ r rfl
   simp [Go.Proofs.Ytkpjjfhfbpfjpaa.low, this, cmpR_is.self]
  | none =>
   cases b with
   | nil => rfl
   | cons y b =>
    have h1 := h.above y (by simp)
    have h2 := cmpR_is.flip key (keyF s t y)
    simp only [Option.toList_none, List.nil_append, Go.Proofs.Ytkpjjfhfbpfjpaa.low]
    rw [if_neg (by omega)]
 omega
theorem Cut.found (h : Cut s t key l a o b) : foundL s t key l = o.isSome := by
 unfold foundL
 rw [h.low, h.eq]
 cases o with
 | some r =>
  have := h.at_ r rfl
  simp [List.getD, this, cmpR_is.self]
 | none =>
  cases b with
  | nil => simp
  | cons y b =>
   have h1 := h.above y (by simp)
   have h2 := cmpR_is.flip key (keyF s t y)
   have h3 : ¬ cmpR (keyF s t y) key = 0 := by omega
   simp [List.getD, h3]
theorem Cut.put (h : Cut s t key l a o b) (row : Row) : putL s t key row l = a ++ (if 0 < row.length then [row] else []) ++ b := by
 unfold putL
 rw [h.low, h.found, h.eq]
 cases o with
 | some r => simp
 | none => simp
theorem Cut.at_low (h : Cut s t key l a o b) {r : Row} (hr : o = some r) : l.getD a.length [] = r := by
 rw [h.eq, hr]
 simp [List.getD]
theorem Cut.find (h : Cut s t key l a o b) : findK s t key l = o := by
 rw [h.eq]
 unfold findK
 have h0 : ∀ {a : List Row}, (∀ x ∈ a, cmpR (keyF s t x) key < 0) → a.find? (fun r => cmpR (keyF s t r) key == 0) = none := fun {a} ha => by
  rw [List.find?_eq_none]
  intro x hx
  have := ha x hx
  simp
  omega
 rw [List.append_assoc, List.find?_append, h0 h.below, Option.none_or]
 cases o with
 | some r =>
  have := h.at_ r rfl
  simp [this, cmpR_is.self]
 | none =>
  simp only [Option.toList_none, List.nil_append]
  rw [List.find?_eq_none]
  intro y hy
  have h1 := h.above y hy
  have h2 := cmpR_is.flip key (keyF s t y)
  simp
  omega
theorem asc_tail {r : Row} (h : Asc s t (r :: l)) : Asc s t l ∧ ∀ y ∈ l, cmpR (keyF s t r) (keyF s t y) < 0 :=
 ⟨fun i j hij hj => h (i + 1) (j + 1) (by omega) (by simpa using hj), fun y hy => by
  obtain ⟨j, hj, rfl⟩ := List.mem_iff_getElem.1 hy
  have := h 0 (j + 1) (by omega) (by simpa using hj)
  simpa [List.getD, hj] using this⟩
theorem asc_cons {r : Row} (h : Asc s t l) (hr : ∀ y ∈ l, cmpR (keyF s t r) (keyF s t y) < 0) : Asc s t (r :: l) := by
 intro i j hij hj
 cases j with
 | zero => omega
 | succ j =>
  have hj' : j < l.length := by simpa using hj
  cases i with
  | zero =>
   have := hr l[j] (List.getElem_mem _)
   simpa [List.getD, hj'] using this
  | succ i => exact h i j (by omega) hj'
theorem cut_of_asc (key : Row) : ∀ {l : List Row}, Asc s t l → ∃ a o b, Cut s t key l a o b
 | [], _ => ⟨[], none, [], ⟨rfl, by simp, by simp, by simp⟩⟩
 | r :: l, h => by
  obtain ⟨h1, h2⟩ := asc_tail h
  by_cases hc : cmpR (keyF s t r) key < 0
  · obtain ⟨a, o, b, h3⟩ := cut_of_asc key h1
    refine ⟨r :: a, o, b, ⟨by rw [h3.eq]; simp, fun x hx => ?_, h3.at_, h3.above⟩⟩
    rcases List.mem_cons.1 hx with rfl | hx
    · exact hc
    · exact h3.below x hx
  · have hfl := cmpR_is.flip (keyF s t r) key
    by_cases he : cmpR (keyF s t r) key = 0
    · have hk := (cmpR_is.zero _ _).1 he
      exact ⟨[], some r, l, ⟨rfl, by simp, fun r' e => by injection e with e; rw [← e]; exact hk, fun y hy => by rw [← hk]; exact h2 y hy⟩⟩
    · refine ⟨[], none, r :: l, ⟨rfl, by simp, by simp, fun y hy => ?_⟩⟩
      rcases List.mem_cons.1 hy with rfl | hy
      · omega
      · exact cmpR_is.lt_trans (show cmpR key (keyF s t r) < 0 by omega) (h2 y hy)
theorem Cut.again (h : Cut s t key l a o b) {row : Row} (hr : 0 < row.length → keyF s t row = key) : Cut s t key (putL s t key row l) a (if 0 < row.length then some row else none) b := by
 refine ⟨?_, h.below, fun r e => ?_, h.above⟩
 · rw [h.put]
   split <;> simp
 · split at e
   · rename_i h0
     injection e with e
     rw [← e]; exact hr h0
   · cases e
end
def rput (s : Sch) (t : Int) (key row : Row) : Bool → List Row → List Row
 | d, [] => if d then [] else [row]
 | d, r :: l => (if 0 ≤ cmpR (keyF s t r) key ∧ d = false then [row] else []) ++ ((if cmpR (keyF s t r) key ≠ 0 then [r] else []) ++ rput s t key row (d || decide (0 ≤ cmpR (keyF s t r) key)) l)
def putR (s : Sch) (t : Int) (key row : Row) (l : List Row) : List Row := rput s t key row (decide (row.length = 0)) l
theorem rput_above {s : Sch} {t : Int} {key row : Row} : ∀ {b : List Row}, (∀ y ∈ b, cmpR key (keyF s t y) < 0) → rput s t key row true b = b
 | [], _ => by simp [rput]
 | y :: b, h => by
  have h1 := h y (by simp)
  have h2 := cmpR_is.flip key (keyF s t y)
  have h3 : ¬ cmpR (keyF s t y) key = 0 := by omega
  have ih := rput_above (row := row) (b := b) (fun z hz => h z (by simp [hz]))
  simp [rput, h3, ih]
theorem rput_false_above {s : Sch} {t : Int} {key row : Row} : ∀ {b : List Row}, (∀ y ∈ b, cmpR key (keyF s t y) < 0) → rput s t key row false b = row :: b
 | [], _ => by simp [rput]
 | y :: b, h => by
  have h1 := h y (by simp)
  have h2 := cmpR_is.flip key (keyF s t y)
  have h3 : ¬ cmpR (keyF s t y) key = 0 := by omega
  have h4 : 0 ≤ cmpR (keyF s t y) key := by omega
  have ih := rput_above (row := row) (b := b) (fun z hz => h z (by simp [hz]))
  simp [rput, h3, h4, ih]
theorem rput_below {s : Sch} {t : Int} {key row : Row} {d : Bool} {l : List Row} : ∀ {a : List Row}, (∀ x ∈ a, cmpR (keyF s t x) key < 0) → rput s t key row d (a ++ l) = a ++ rput s t key row d l
 | [], _ => by simp
 | x :: a, h => by
  have h1 := h x (by simp)
  have h3 : ¬ cmpR (keyF s t x) key = 0 := by omega
  have h4 : ¬ 0 ≤ cmpR (keyF s t x) key := by omega
  have ih := rput_below (row := row) (d := d) (l := l) (a := a) (fun z hz => h z (by simp [hz]))
  simp [rput, h3, h4, ih]
theorem putR_eq {s : Sch} {t : Int} {l : List Row} (h : Asc s t l) (key row : Row) : putR s t key row l = putL s t key row l := by
 obtain ⟨a, o, b, hc⟩ := cut_of_asc key h
 rw [hc.put row]
 unfold putR
 rw [hc.eq, List.append_assoc, rput_below hc.below, List.append_assoc]
 congr 1
 cases o with
 | some r =>
  have hk := hc.at_ r rfl
  have h0 : cmpR (keyF s t r) key = 0 := by rw [hk]; exact cmpR_is.self _
  by_cases hr : row.length = 0
  · simp [rput, h0, hr, rput_above hc.above]
  · have : 0 < row.length := by omega
    simp [rput, h0, hr, this, rput_above hc.above]
 | none =>
  by_cases hr : row.length = 0
  · simp [hr, rput_above hc.above]
  · have : 0 < row.length := by omega
    simp [hr, this, rput_false_above hc.above]
def RowsOk (s : Sch) (t m : Int) (l : List Row) : Prop := (∀ r ∈ l, fitsF s t r m = true) ∧ Asc s t l
def StOk (s : Sch) (m : Int) (st : St) : Prop := st.length = s.tabs.length ∧ ∀ t, t < st.length → RowsOk s (t : Int) m (st.getD t [])
theorem rowsOk_of {s : Sch} {t m : Int} : ∀ {l : List Row} {p : Option Row}, (∀ r ∈ l, fitsF s t r m = true) → Asc s t l → (∀ q, p = some q → ∀ y ∈ l, cmpR (keyF s t q) (keyF s t y) < 0) → rowsOk s t m p l = true
 | [], p, _, _, _ => by simp [rowsOk]
 | r :: l, p, h1, h2, h3 => by
  obtain ⟨h4, h5⟩ := asc_tail h2
  have ih := rowsOk_of (p := some r) (fun x hx => h1 x (by simp [hx])) h4 (fun q e y hy => by injection e with e; rw [← e]; exact h5 y hy)
  have h6 := h1 r (by simp)
  cases p with
  | none => simp [rowsOk, ih, h6]
  | some q =>
   have := h3 q rfl r (by simp)
   simp [rowsOk, ih, h6, this]
theorem stOk_of {s : Sch} {m : Int} : ∀ {st : St} {t : Nat}, (∀ k, k < st.length → RowsOk s ((t + k : Nat) : Int) m (st.getD k [])) → stOk s m t st = true
 | [], t, _ => by simp [stOk]
 | l :: st, t, h => by
  have h0 := h 0 (by simp)
  have ih := stOk_of (s := s) (m := m) (st := st) (t := t + 1) (fun k hk => by
   have := h (k + 1) (by simpa using hk)
   rw [show t + (k + 1) = t + 1 + k by omega] at this
   exact this)
  simp only [stOk, ih, Bool.and_true]
  exact rowsOk_of h0.1 h0.2 (fun q e => by cases e)
theorem StOk.ok {s : Sch} {m : Int} {st : St} (h : StOk s m st) : stOk s m 0 st = true := stOk_of (fun k hk => by rw [Nat.zero_add]; exact h.2 k hk)
theorem StOk.check {s : Sch} {m : Int} {st : St} (h : StOk s m st) (hm : modeOk m = true) (hc : countF st ≤ 512) : checkF 0 s m st = 0 := by
 unfold checkF
 have h1 : modeF 0 m = 0 := by simp [modeF, hm]
 rw [h1, h.ok]
 simp only [ne_eq, not_true, if_false, if_true]
 rw [if_neg (by omega), if_neg (by rw [h.1]; simp)]
theorem StOk.set {s : Sch} {m : Int} {st : St} (h : StOk s m st) {t : Nat} {l : List Row} (hl : RowsOk s t m l) : StOk s m (st.set t l) := by
 refine ⟨by rw [List.length_set]; exact h.1, fun k hk => ?_⟩
 rw [List.length_set] at hk
 by_cases e : t = k
 · subst e
   have : (st.set t l).getD t [] = l := by simp [List.getD, hk]
   rw [this]; exact hl
 · have : (st.set t l).getD k [] = st.getD k [] := by simp [List.getD, List.getElem?_set_ne e]
   rw [this]; exact h.2 k hk
theorem fits_len {s : Sch} {t m : Int} {r : Row} (h : fitsF s t r m = true) : r.length = (s.tabs.getD t.toNat t0).cols.length := by
 unfold fitsF at h
 simp only [Bool.and_eq_true, decide_eq_true_eq] at h
 exact h.1.2
theorem rowsOk_put {s : Sch} {t m : Int} {l : List Row} (h : RowsOk s t m l) {key row : Row} (hk : 0 < row.length → keyF s t row = key) (hf : 0 < row.length → fitsF s t row m = true) : RowsOk s t m (putL s t key row l) := by
 obtain ⟨a, o, b, hc⟩ := cut_of_asc key h.2
 have he := hc.put row
 refine ⟨fun r hr => ?_, ?_⟩
 · rw [he] at hr
   simp only [List.mem_append] at hr
   rcases hr with (hr | hr) | hr
   · exact h.1 r (by rw [hc.eq]; simp [hr])
   · split at hr
     · rename_i h0
       rw [List.mem_singleton] at hr
       rw [hr]; exact hf h0
     · simp at hr
   · exact h.1 r (by rw [hc.eq]; simp [hr])
 · rw [he]
   have ha : Asc s t (a ++ (o.toList ++ b)) := by rw [← List.append_assoc, ← hc.eq]; exact h.2
   have ha1 : Asc s t a := by
    have := asc_take ha a.length
    rwa [List.take_left] at this
   have ha2 : Asc s t b := by
    have := asc_drop ha (a.length + o.toList.length)
    rwa [List.drop_append, List.drop_of_length_le (by omega), List.nil_append, show a.length + o.toList.length - a.length = o.toList.length by omega, List.drop_left] at this
   have hab : ∀ x ∈ a, ∀ y ∈ b, cmpR (keyF s t x) (keyF s t y) < 0 := fun x hx y hy => cmpR_is.lt_trans (hc.below x hx) (hc.above y hy)
   by_cases h0 : 0 < row.length
   · rw [if_pos h0]
     refine asc_append (asc_append ha1 (asc_one _ _ _) (fun x hx y hy => ?_)) ha2 (fun x hx y hy => ?_)
     · rw [List.mem_singleton] at hy
       rw [hy, hk h0]; exact hc.below x hx
     · rcases List.mem_append.1 hx with hx | hx
       · exact hab x hx y hy
       · rw [List.mem_singleton] at hx
         rw [hx, hk h0]; exact hc.above y hy
   · rw [if_neg h0, List.append_nil]
     exact asc_append ha1 ha2 hab
def stepC (s : Sch) (st : St) (x : Chg) : St := st.set x.table.toNat (putC s x (st.getD x.table.toNat []))
def Fit (s : Sch) (m : Int) : St → List Chg → Prop
 | _, [] => True
 | st, x :: l => (validC s m x = true ∧ fitsC s x (st.getD x.table.toNat []) = true) ∧ Fit s m (stepC s st x) l
def after (s : Sch) (st : St) (l : List Chg) : St := l.foldl (stepC s) st
theorem after_snoc (s : Sch) (st : St) (l : List Chg) (x : Chg) : after s st (l ++ [x]) = stepC s (after s st l) x := by simp [after]
theorem Fit.snoc {s : Sch} {m : Int} : ∀ {st : St} {l : List Chg} {x : Chg}, Fit s m st l → validC s m x = true → fitsC s x ((after s st l).getD x.table.toNat []) = true → Fit s m st (l ++ [x])
 | st, [], x, _, h1, h2 => ⟨⟨h1, h2⟩, trivial⟩
 | st, y :: l, x, h, h1, h2 => ⟨h.1, Fit.snoc h.2 h1 h2⟩
theorem valid_fits {s : Sch} {m : Int} {x : Chg} (h : validC s m x = true) : (0 < x.old.length → fitsF s x.table x.old m = true) ∧ (0 < x.new.length → fitsF s x.table x.new m = true) := by
 unfold validC at h
 simp only [Bool.and_eq_true, Bool.or_eq_true, decide_eq_true_eq] at h
 obtain ⟨⟨⟨_, h1⟩, h2⟩, _⟩ := h
 exact ⟨fun h0 => h1.resolve_left (by omega), fun h0 => h2.resolve_left (by omega)⟩
theorem step_ok {s : Sch} {m : Int} {st : St} {x : Chg} (h : StOk s m st) (hv : validC s m x = true) : StOk s m (stepC s st x) ∧ countF (stepC s st x) ≤ countF st + 1 := by
 have hv' := hv
 unfold validC at hv'
 simp only [Bool.and_eq_true, hasN, decide_eq_true_eq] at hv'
 obtain ⟨⟨⟨⟨⟨ht0, ht1⟩, _⟩, _⟩, _⟩, _⟩ := hv'
 obtain ⟨t, ht⟩ := Int.eq_ofNat_of_zero_le ht0
 have htn : x.table.toNat = t := by omega
 unfold stepC
 rw [htn]
 have htl : t < st.length := by have := h.1; omega
 refine ⟨h.set ?_, ?_⟩
 · have hr := h.2 t htl
   rw [← ht] at hr ⊢
   exact rowsOk_put hr (fun h0 => key_new hv h0) (valid_fits hv).2
 · have h1 := countF_set st t (putC s x (st.getD t [])) htl
   have h2 := put_len s x (st.getD t [])
   omega
theorem fit_apply {s : Sch} {m : Int} : ∀ {l : List Chg} {st : St}, StOk s m st → Fit s m st l → countF st + l.length ≤ 512 → applyL s m (countF st) st l = (0, after s st l)
 | [], st, _, _, _ => rfl
 | x :: l, st, h, hf, hc => by
  obtain ⟨⟨hv, hfc⟩, hr⟩ := hf
  obtain ⟨h1, h2⟩ := step_ok h hv
  rw [List.length_cons] at hc
  obtain ⟨t, ht, htl⟩ : ∃ t : Nat, x.table = t ∧ t < st.length := by
   unfold validC at hv
   simp only [Bool.and_eq_true, hasN, decide_eq_true_eq] at hv
   obtain ⟨t, ht⟩ := Int.eq_ofNat_of_zero_le hv.1.1.1.1.1
   exact ⟨t, ht, by have := hv.1.1.1.1.2; have := h.1; omega⟩
  have hcs : (countF st : Int) + ((putC s x (st.getD x.table.toNat [])).length - (st.getD x.table.toNat []).length : Int) = countF (stepC s st x) := by
   have := countF_set st t (putC s x (st.getD t [])) htl
   unfold stepC
   rw [show x.table.toNat = t by omega, this]
  have ih := fit_apply h1 hr (by omega)
  unfold applyL
  rw [hv, hfc, hcs]
  simp only [Bool.true_eq_false, if_false]
  rw [if_neg (by omega)]
  exact ih
theorem fit_ok {s : Sch} {m : Int} : ∀ {l : List Chg} {st : St}, StOk s m st → Fit s m st l → StOk s m (after s st l) ∧ countF (after s st l) ≤ countF st + l.length
 | [], st, h, _ => ⟨h, by simp [after]⟩
 | x :: l, st, h, hf => by
  obtain ⟨h1, h2⟩ := step_ok h hf.1.1
  obtain ⟨h3, h4⟩ := fit_ok h1 hf.2
  exact ⟨h3, by rw [List.length_cons]; show countF (after s (stepC s st x) l) ≤ _; omega⟩
theorem valid_inv {s : Sch} {m : Int} {x : Chg} (hv : validC s m x = true) : validC s m (invC x) = true := by
 unfold validC at hv ⊢
 simp only [Bool.and_eq_true] at hv ⊢
 obtain ⟨⟨⟨⟨h1, h2⟩, h3⟩, h4⟩, h5⟩ := hv
 refine ⟨⟨⟨⟨h1, by rw [Bool.and_comm]; exact h2⟩, h4⟩, h3⟩, ?_⟩
 simp only [Bool.or_eq_true, decide_eq_true_eq, beq_iff_eq, invC] at h5 ⊢
 rcases h5 with (h | h) | h
 · exact .inl (.inr (decide_eq_true h))
 · exact .inl (.inl (decide_eq_true h))
 · exact .inr (by rw [cmpR_is.flip, h]; rfl)
theorem fit_old {s : Sch} {x : Chg} {l a b : List Row} {o : Option Row} (h : Cut s x.table (keyC s x) l a o b) (hf : fitsC s x l = true) : o = if 0 < x.old.length then some x.old else none := by
 unfold fitsC at hf
 rw [foundC_eq, h.found, h.low] at hf
 simp only [Bool.and_eq_true, beq_iff_eq, Bool.or_eq_true, Bool.not_eq_true'] at hf
 cases o with
 | none =>
  have : ¬ 0 < x.old.length := by simpa using hf.1.symm
  rw [if_neg this]
 | some r =>
  have h0 : 0 < x.old.length := by simpa using hf.1.symm
  rw [if_pos h0]
  have h2 := hf.2.resolve_left (by simp)
  rw [h.at_low rfl] at h2
  rw [(cmpR_is.zero _ _).1 h2]
theorem fits_of_cut {s : Sch} {x : Chg} {l a b : List Row} {o : Option Row} (h : Cut s x.table (keyC s x) l a o b) (ho : o = if 0 < x.old.length then some x.old else none) : fitsC s x l = true := by
 unfold fitsC
 rw [foundC_eq, h.found, h.low]
 split at ho
 · rename_i h0
   rw [h.at_low ho]
   subst ho
   simp [h0, cmpR_is.self]
 · rename_i h0
   subst ho
   simp [h0]
end Go.Proofs.Ytkpjjfhfbpfjpaa

namespace Go.Proofs.Ytkpjjfhfbpfjpaa
open Go.RowKit
def inT (s : Sch) (st : St) (t : Int) : Bool := hasN s.tabs.length t && hasN st.length t
def getS (s : Sch) (st : St) (t : Int) (key : Row) : Option Row := if inT s st t then findK s t key (st.getD t.toNat []) else none
def FindPost (l : List Row) (o : Option Row) (w : World) (e : Ending) (w' : World) : Prop := Below w.heap.size w w' ∧ match o with
 | none => e = .returned (.int .i64 (-1))
 | some r => ∃ i, i < l.length ∧ l.getD i [] = r ∧ e = .returned (.int .i64 (i : Int))
set_option maxHeartbeats 2000000 in
theorem rfind_in (A0 : Option Addr) (c0' : Nat) (s : Sch) (A : Option Addr) (ca : Nat) (st : St) (t : Nat) (AK : Option Addr) (ck : Nat) (key : Row) (S : Nat → Prop) (w : World) (hs : TabS w S A0 s.tabs) (hst : StS w S A st) (hk : RowS w S AK key) (hS : ∀ b, S b → b < w.heap.size) (ht1 : t < s.tabs.length) (ht2 : t < st.length) :
  Calls Try.prog 71 #[sAgg s.version A0 s.tabs.length c0', stAgg A st.length ca, .int .i64 t, .slice AK key.length ck] w (FindPost (st.getD t []) (findK s t key (st.getD t [])) w) := by
 have hsl := hs.len
 have hstl := hst.len
 have hkl := hk.len
 have HS := Lib.hid hs
 have HST := Lib.hid hst
 have HK := Lib.hid hk
 clear hs hst hk
 obtain ⟨b1, o1, rfl, hb1, A', c', d1, d2, d3⟩ := HST.out.at_ ht2
 have hl1 : b1 < w.heap.size := hS b1 hb1
 have HR := Lib.hid d3
 have hrl := d3.len
 clear d2 d3
 generalize st.getD t [] = rows at d1 HR hrl
 have hd1 : decide ((t : Int) < 0) = false := decide_eq_false (by omega)
 have hd2 : decide (s.tabs.length ≤ t) = false := decide_eq_false (by omega)
 have hd3 : decide (st.length ≤ t) = false := decide_eq_false (by omega)
 have HB0 := Lib.hid (((Below.refl w.heap.size w).alloc (Nat.le_refl _) (.cells #[.int .i64 s.version, .slice A0 s.tabs.length c0'] 25)).alloc (by simp) (.cells #[.slice (some ⟨b1, o1, none⟩) st.length ca] 56))
 go_enter Try.func71, Try.ntmps71
 go_wp2_with fail
 go_loopw [33] (fun i wr => ∃ k : Nat, k ≤ rows.length ∧ i = .int .i64 k ∧ findK s t key rows = findK s t key (rows.drop k) ∧ Below w.heap.size w wr ∧ wr.cell? ⟨w.heap.size, 0, none⟩ = some (.int .i64 s.version) ∧ wr.cell? ⟨w.heap.size, 1, none⟩ = some (.slice A0 s.tabs.length c0') ∧ w.heap.size < wr.heap.size) (fun i _ => rows.length - (intOf i).toNat)
 case atStart => exact ⟨0, Nat.zero_le _, rfl, by simp, HB0.out, (cell_old (by simp)).trans (cell_new rfl rfl), (cell_old (by simp)).trans (cell_new rfl rfl), by simp; omega⟩
 case round =>
  obtain ⟨k, hk, rfl, hf, hbel, x0, x1, hw⟩ := hrel
  have HF := Lib.hid hf
  have HB := Lib.hid hbel
  clear hf hbel d1
  by_cases hkl' : k < rows.length
  · obtain ⟨b2, o2, rfl, hb2, A2, c2, f1, f2, f3⟩ := (HR.out.keep (Same.of_below HB.out hS)).at_ hkl'
    have hl2 : b2 < wr.heap.size := by have := hS b2 hb2; omega
    have HROW := Lib.hid f3
    have HC := Lib.hid f2
    have hrw := f3.len
    have HSTEP := Lib.hid (findK_drop s t key hkl')
    have HOK := Lib.hid f3.ok
    obtain ⟨row, hrow⟩ : ∃ row, rows.getD k [] = row := ⟨_, rfl⟩
    have HROWE := Lib.hid hrow
    clear f2 f3
    rw [hrow] at f1 HROW HC hrw HSTEP HOK
    clear hrow
    have hSr : ∀ b, S b → b < wr.heap.size := fun b hb => by have := hS b hb; omega
    go_wp2_with fail
    refine (rkey_any A0 c0' s t A2 c2 row S _ (HS.out.keep (Same.of_below HB.out hS)) HROW.out HC.out hSr).mono ?_
    rintro e w1 ⟨A3, c3, rfl, h3, hb3⟩
    have hokk : RowOk (keyF s t row) := ((HROW.out.key s t (A' := A2) (fun _ => rfl))).ok
    have HKR := Lib.hid ((rows_of_owns hokk h3).more (S' := fun b => b < w1.heap.size) (fun b hb => hb.2))
    have HB3 := Lib.hid (HB.out.trans (hb3.mono (by omega)))
    have y0 := (hb3.cell (p := ⟨w.heap.size, 0, none⟩) hw).trans x0
    have y1 := (hb3.cell (p := ⟨w.heap.size, 1, none⟩) hw).trans x1
    have hw3 : w.heap.size < w1.heap.size := by have := hb3.size; omega
    have hs3 := hb3.size
    clear hb3 h3 x0 x1 hokk
    go_wp2_with fail
    refine (rcompareRows_any A3 AK c3 ck (keyF s t row) key (fun b => b < w1.heap.size) _ HKR.out ((HK.out.keep (Same.of_below HB3.out hS)).more (fun b hb => by have := hS b hb; omega)) (fun b hb => hb)).mono ?_
    rintro e w2 ⟨rfl, hb4⟩
    have HB4 := Lib.hid (HB3.out.trans (hb4.mono (by omega)))
    have z0 := (hb4.cell (p := ⟨w.heap.size, 0, none⟩) hw3).trans y0
    have z1 := (hb4.cell (p := ⟨w.heap.size, 1, none⟩) hw3).trans y1
    have hw4 : w.heap.size < w2.heap.size := by have := hb4.size; omega
    clear hb4 y0 y1
    by_cases hc : cmpR (keyF s t row) key = 0
    · have HFF := Lib.hid (show findK s t key rows = some row by rw [HF.out, HSTEP.out, if_pos hc])
      rw [hc]
      clear hc HSTEP
      go_wp2_with fail
      go_ret
      rw [HFF.out]
      exact ⟨HB4.out, k, hkl', HROWE.out, rfl⟩
    · have HFF := Lib.hid (show findK s t key rows = findK s t key (rows.drop (k + 1)) by rw [HF.out, HSTEP.out, if_neg hc])
      have hd : (cmpR (keyF s t row) key == 0) = false := beq_eq_false_iff_ne.2 hc
      clear hc HSTEP
      generalize cmpR (keyF s t row) key = cv at hd
      go_wp2_with fail
      go_roundw
      case rel => exact ⟨k + 1, by omega, by go_num, HFF.out, HB4.out, z0, z1, hw4⟩
      case measure => simp [intOf]; omega
  · have HFF := Lib.hid (show findK s t key rows = none by rw [HF.out, List.drop_eq_nil_of_le (by omega)]; rfl)
    go_wp2_with fail
    go_ret
    rw [HFF.out]
    exact ⟨HB.out, rfl⟩
theorem not_in {s : Sch} {st : St} {t : Int} (h : inT s st t = false) : t < 0 ∨ (s.tabs.length : Int) ≤ t ∨ (st.length : Int) ≤ t := by
 unfold inT hasN at h
 by_cases h1 : t < 0
 · exact .inl h1
 · by_cases h2 : (s.tabs.length : Int) ≤ t
   · exact .inr (.inl h2)
   · refine .inr (.inr ?_)
     have a1 : decide (0 ≤ t) = true := decide_eq_true (by omega)
     have a2 : decide (t < s.tabs.length) = true := decide_eq_true (by omega)
     rw [a1, a2] at h
     simp at h
     exact h
theorem is_in {s : Sch} {st : St} {t : Int} (h : inT s st t = true) : ∃ k : Nat, t = k ∧ k < s.tabs.length ∧ k < st.length := by
 unfold inT hasN at h
 simp only [Bool.and_eq_true, decide_eq_true_eq] at h
 obtain ⟨k, hk⟩ := Int.eq_ofNat_of_zero_le h.1.1
 exact ⟨k, hk, by omega, by omega⟩
set_option maxHeartbeats 2000000 in
theorem rfind_out (A0 : Option Addr) (c0' : Nat) (s : Sch) (A : Option Addr) (ca : Nat) (st : St) (t : Int) (AK : Option Addr) (ck : Nat) (key : Row) (w : World) (hsl : s.tabs.length ≤ 17592186044416) (hstl : st.length ≤ 5864062014805) (hin : inT s st t = false) :
  Calls Try.prog 71 #[sAgg s.version A0 s.tabs.length c0', stAgg A st.length ca, .int .i64 t, .slice AK key.length ck] w (FindPost [] none w) := by
 have HB0 := Lib.hid (((Below.refl w.heap.size w).alloc (Nat.le_refl _) (.cells #[.int .i64 s.version, .slice A0 s.tabs.length c0'] 25)).alloc (by simp) (.cells #[.slice A st.length ca] 56))
 have hor := not_in hin
 clear hin
 by_cases h0 : t < 0
 · have hd1 : decide (t < 0) = true := decide_eq_true h0
   clear hor
   go_enter Try.func71, Try.ntmps71
   go_wp2_with fail
   go_ret
   exact ⟨HB0.out, rfl⟩
 · have hd1 : decide (t < 0) = false := decide_eq_false h0
   by_cases h1 : (s.tabs.length : Int) ≤ t
   · have hd2 : decide ((s.tabs.length : Int) ≤ t) = true := decide_eq_true h1
     clear hor
     go_enter Try.func71, Try.ntmps71
     go_wp2_with fail
     go_ret
     exact ⟨HB0.out, rfl⟩
   · have hd2 : decide ((s.tabs.length : Int) ≤ t) = false := decide_eq_false h1
     have h3 : (st.length : Int) ≤ t := by omega
     have hd3 : decide ((st.length : Int) ≤ t) = true := decide_eq_true h3
     clear hor
     go_enter Try.func71, Try.ntmps71
     go_wp2_with fail
     go_ret
     exact ⟨HB0.out, rfl⟩
def GetN (o : Option Row) (w : World) (e : Ending) (w' : World) : Prop := ∃ A c, e = .returned (.tuple #[.slice A (o.getD []).length c, .bool o.isSome]) ∧ w'.ownsRow w.heap.size 51 3 (.slice A (o.getD []).length c) (o.getD []).length (rowVals (o.getD [])) ∧ Below w.heap.size w w'
set_option maxHeartbeats 2000000 in
theorem rget_any (A0 : Option Addr) (c0' : Nat) (s : Sch) (A : Option Addr) (ca : Nat) (st : St) (t : Int) (AK : Option Addr) (ck : Nat) (key : Row) (S : Nat → Prop) (w : World) (hs : TabS w S A0 s.tabs) (hst : StS w S A st) (hk : RowS w S AK key) (hS : ∀ b, S b → b < w.heap.size) :
  Calls Try.prog 35 #[sAgg s.version A0 s.tabs.length c0', stAgg A st.length ca, .int .i64 t, .slice AK key.length ck] w (GetN (getS s st t key) w) := by
 have hsl := hs.len
 have hstl := hst.len
 have HS := Lib.hid hs
 have HST := Lib.hid hst
 have HK := Lib.hid hk
 clear hs hst hk
 have HB0 := Lib.hid (((Below.refl w.heap.size w).alloc (Nat.le_refl _) (.cells #[.int .i64 s.version, .slice A0 s.tabs.length c0'] 25)).alloc (by simp) (.cells #[.slice A st.length ca] 56))
 have HSM := Lib.hid (Same.of_below HB0.out hS)
 by_cases hin : inT s st t = true
 · have HG := Lib.hid (show getS s st t key = findK s t key (st.getD t.toNat []) by unfold getS; rw [if_pos hin])
   obtain ⟨k, rfl, hk1, hk2⟩ := is_in hin
   rw [Int.toNat_natCast] at HG
   clear hin
   go_enter Try.func35, Try.ntmps35
   go_wp2_with fail
   refine (rfind_in A0 c0' s A ca st k AK ck key S _ (HS.out.keep HSM.out) (HST.out.keep HSM.out) (HK.out.keep HSM.out) (fun b hb => by have := hS b hb; simp; omega) hk1 hk2).mono ?_
   rintro e w1 ⟨hb1, hm⟩
   have HB1 := Lib.hid (HB0.out.trans (hb1.mono (by simp; omega)))
   have x0 : w1.cell? ⟨w.heap.size + 1, 0, none⟩ = some (.slice A st.length ca) := (hb1.cell (p := ⟨w.heap.size + 1, 0, none⟩) (by simp)).trans (cell_new (by simp) rfl)
   have hw1 : w.heap.size + 1 < w1.heap.size := by have := hb1.size; simp at this; omega
   clear hb1
   cases ho : findK s k key (st.getD k []) with
   | none =>
    rw [ho] at hm HG
    obtain rfl := hm
    clear ho
    go_wp2_with fail
    go_ret2
    rw [HG.out]
    exact ⟨none, 0, rfl, World.ownsRow_nil _ _ _ _, HB1.out⟩
   | some r =>
    rw [ho] at hm HG
    obtain ⟨i, hi, hr, rfl⟩ := hm
    have HR := Lib.hid hr
    clear ho hr
    obtain ⟨b1, o1, rfl, hb1, A', c', d1, d2, d3⟩ := (HST.out.keep (Same.of_below HB1.out hS)).at_ hk2
    have hl1 : b1 < w.heap.size := hS b1 hb1
    obtain ⟨b2, o2, rfl, hb2, A2, c2, f1, f2, f3⟩ := d3.at_ hi
    have hl2 : b2 < w.heap.size := hS b2 hb2
    have hrl := d3.len
    rw [HR.out] at f1 f2 f3
    have HROW := Lib.hid f3
    have HC := Lib.hid f2
    clear d2 d3 f2 f3 HR
    generalize st.getD k [] = rows at d1 hi hrl HG
    go_wp2_with fail
    refine (rcopy_any A2 c2 r S _ HROW.out).mono ?_
    rintro e w2 hN
    obtain ⟨A3, c3, rfl, h3, hb3⟩ := NewR.low (w := w) hN HB1.out
    have H3 := Lib.hid h3
    have HB3 := Lib.hid hb3
    clear hN h3 hb3
    go_wp2_with fail
    go_ret2
    rw [HG.out]
    exact ⟨A3, c3, rfl, H3.out, HB3.out⟩
 · have hin' : inT s st t = false := by simpa using hin
   have HG := Lib.hid (show getS s st t key = none by unfold getS; rw [if_neg hin])
   have HIN := Lib.hid hin'
   clear hin hin'
   go_enter Try.func35, Try.ntmps35
   go_wp2_with fail
   refine (rfind_out A0 c0' s A ca st t AK ck key _ hsl hstl HIN.out).mono ?_
   rintro e w1 ⟨hb1, rfl⟩
   have HB1 := Lib.hid (HB0.out.trans (hb1.mono (by simp; omega)))
   clear hb1
   go_wp2_with fail
   go_ret2
   rw [HG.out]
   exact ⟨none, 0, rfl, World.ownsRow_nil _ _ _ _, HB1.out⟩
end Go.Proofs.Ytkpjjfhfbpfjpaa

namespace Go.Proofs.Ytkpjjfhfbpfjpaa
open Go.RowKit
def StC (w : World) (S : Nat → Prop) (gt : Nat) (st : St) : Prop :=
 ∃ vs : List Value, (∃ rest : List Value, w.heap[gt]? = some (.cells (vs ++ rest).toArray 49 (0, 0))) ∧ Dat.ValsAll w S (st.map encRows) vs ∧ ∀ b, S b → b < w.heap.size ∧ b ≠ gt
section
variable {w w' : World} {S S' : Nat → Prop} {gt : Nat} {st : St}
theorem StC.keep (h : StC w S gt st) (hs : w.heap.size ≤ w'.heap.size) (hk : Same S w w') (hg : w'.heap[gt]? = w.heap[gt]?) : StC w' S gt st := by
 obtain ⟨vs, ⟨rest, h1⟩, h2, h3⟩ := h
 exact ⟨vs, ⟨rest, hg.trans h1⟩, Dat.ValsAll.keep hk _ _ h2, fun b hb => ⟨Nat.lt_of_lt_of_le (h3 b hb).1 hs, (h3 b hb).2⟩⟩
theorem StC.lt (h : StC w S gt st) : gt < w.heap.size := by
 obtain ⟨vs, ⟨rest, h1⟩, _⟩ := h
 exact lt_of_heap h1
theorem StC.mem (h : StC w S gt st) : ∀ b, S b → b < w.heap.size ∧ b ≠ gt := by
 obtain ⟨_, _, _, h3⟩ := h
 exact h3
theorem StC.below (h : StC w S gt st) (hb : Below w.heap.size w w') : StC w' S gt st :=
 h.keep hb.size (fun b hb' => hb.block b (h.mem b hb').1) (hb.block gt h.lt)
theorem StC.fr {X : Nat → Prop} (h : StC w S gt st) (hf : Fr X w w') (hX : ∀ b, X b → b < w.heap.size → ¬ S b ∧ b ≠ gt) : StC w' S gt st :=
 h.keep hf.size (fun b hb => hf.block b (h.mem b hb).1 (fun hx => (hX b hx (h.mem b hb).1).1 hb)) (hf.block gt h.lt (fun hx => (hX gt hx h.lt).2 rfl))
theorem StC.more (h : StC w S gt st) (hS : ∀ b, S b → S' b) (hS' : ∀ b, S' b → b < w.heap.size ∧ b ≠ gt) : StC w S' gt st := by
 obtain ⟨vs, h1, h2, h3⟩ := h
 exact ⟨vs, h1, Dat.ValsAll.more hS _ _ h2, hS'⟩
theorem StC.at_ (h : StC w S gt st) {k : Nat} (hk : k < st.length) : w.frozen? ⟨gt, k, none⟩ = false ∧ ∃ A c, w.cell? ⟨gt, k, none⟩ = some (.slice A (st.getD k []).length c) ∧ (st.getD k []).length ≤ c ∧ RowsS w S A (st.getD k []) := by
 obtain ⟨vs, ⟨rest, h1⟩, h2, h3⟩ := h
 obtain ⟨A, c, h4, h5⟩ := vals_at h2 hk
 refine ⟨by simp [World.frozen?, h1], A, c, ?_, h5⟩
 have hl : k < vs.length := (List.getElem?_eq_some_iff.1 h4).1
 simp only [World.cell?, h1]
 simpa [List.getElem?_append_left hl] using h4
theorem StC.slice (h : StC w S gt st) (hl : st.length ≤ 5864062014805) (hS : ∀ b, S b → S' b) (hg : S' gt) : StS w S' (some ⟨gt, 0, none⟩) st := by
 obtain ⟨vs, ⟨rest, h1⟩, h2, h3⟩ := h
 refine Sl.of_vals (by rw [bytesAll_map (n := 24) (fun _ => rfl)]; omega) (Dat.ValsAll.more hS _ _ h2) (fun h0 => ⟨gt, 0, rfl, hg, fun j u hu => ?_⟩)
 have hj : j < vs.length := (List.getElem?_eq_some_iff.1 hu).1
 simp only [World.cell?, h1, Nat.zero_add]
 simpa [List.getElem?_append_left hj] using hu
theorem StC.put (h : StC w S gt st) {k : Nat} (hk : k < st.length) {A : Option Addr} {c : Nat} {r : List Row} (hc : r.length ≤ c) (hr : RowsS w S A r) : StC (w.setCell ⟨gt, k, none⟩ (.slice A r.length c)) S gt (st.set k r) := by
 obtain ⟨vs, ⟨rest, h1⟩, h2, h3⟩ := h
 have hs : Same S w (w.setCell ⟨gt, k, none⟩ (.slice A r.length c)) := fun b hb => Below.heap_setCell w ⟨gt, k, none⟩ _ b (h3 b hb).2
 have hl : k < vs.length := by rw [valsAll_len h2]; exact hk
 have h4 := setCell_block (k := k) (v := .slice A r.length c) h1
 rw [List.set_append, if_pos hl] at h4
 exact ⟨_, ⟨rest, h4⟩, Dat.ValsAll.keep hs _ _ (vals_set h2 hc hr), fun b hb => ⟨by simpa using (h3 b hb).1, (h3 b hb).2⟩⟩
theorem StC.of_own {base n c : Nat} {A : Option Addr} (h : OwnD w base 49 1 S (.slice A n c) (st.map encRows)) (hn : 0 < n) : ∃ g, A = some ⟨g, 0, none⟩ ∧ base ≤ g ∧ n = st.length ∧ n ≤ c ∧ StC w S g st := by
 obtain ⟨vals, h1, h2, h3⟩ := h
 rcases h1.2 with ⟨e, h0⟩ | ⟨g, cap, cur, e, hb, hh, hc, _, hs, hx⟩
 · injection e with _ e2 _; omega
 · injection e with e1 e2 e3
   subst e1 e3
   have hl : n = st.length := by rw [List.length_map] at e2; exact e2
   refine ⟨g, rfl, hb, hl, by rw [e2]; exact hc, vals, ⟨cur.toList.drop vals.length, ?_⟩, h2, fun b hb' => ⟨(h3 b hb').1, fun e => (h3 b hb').2 (by rw [e]; rfl)⟩⟩
   rw [hh]
   have e4 : vals ++ cur.toList.drop vals.length = cur.toList := by
    have : vals.length = (List.map encRows st).length * 1 := by rw [← hx, List.length_take]; simp at hs ⊢; simp at hc; omega
    rw [this]
    conv => lhs; rw [← hx]
    exact List.take_append_drop _ _
   rw [e4]
theorem StC.made {n : Nat} (h : w.heap[gt]? = some (.cells (nilCells n).toArray 49 (0, 0))) : StC w (fun _ => False) gt (List.replicate n []) := by
 refine ⟨nilCells n, ⟨[], by simpa using h⟩, ?_, fun _ h => h.elim⟩
 clear h
 induction n with
 | zero => simp only [List.replicate_zero, List.map_nil, nilCells]; unfold Dat.ValsAll; rfl
 | succ n ih =>
  simp only [nilCells, List.replicate_succ, List.map_cons] at ih ⊢
  unfold Dat.ValsAll
  refine ⟨[.slice none 0 0], _, rfl, ?_, ih⟩
  unfold encRows Dat.Vals
  exact ⟨none, 0, rfl, by simp, Sl.nil_⟩
end
end Go.Proofs.Ytkpjjfhfbpfjpaa

