/- Schemas, and how they lie in memory. -/
import Derived.Test.YtkpjjfhfbpfjpaaValid
namespace Go.Proofs.Ytkpjjfhfbpfjpaa
open Go.RowKit
set_option linter.unusedVariables false

structure Col where
  name : ByteArray
  kind : Int
structure Rfr where
  cols : List Int
  table : Int
structure Opd where
  kind : Int
  index : Int
  value : V
inductive Pred
  | mk (op cmp : Int) (left right : Opd) (args : List Pred)
structure Tab where
  name : ByteArray
  cols : List Col
  key : Int
  refs : List Rfr
  checks : List Pred
structure Sch where
  version : Int
  tabs : List Tab

def encInt (n : Int) : Dat := .lit (.int .i64 n)
def encCol (c : Col) : Dat := .agg [.lit (.string c.name), .lit (.int .i64 c.kind)]
def encRfr (r : Rfr) : Dat := .agg [.slice (r.cols.map encInt), .lit (.int .i64 r.table)]
def encOpd (o : Opd) : Dat := .agg [.lit (.int .i64 o.kind), .lit (.int .i64 o.index), encV o.value]
mutual
def encPred : Pred → Dat
  | .mk op cmp left right args => .agg [.lit (.int .i64 op), .lit (.int .i64 cmp), encOpd left, encOpd right, .slice (encPreds args)]
def encPreds : List Pred → List Dat
  | [] => []
  | p :: r => encPred p :: encPreds r
end
theorem encPreds_map : ∀ l : List Pred, encPreds l = l.map encPred
  | [] => by unfold encPreds; rfl
  | p :: r => by unfold encPreds; rw [encPreds_map r]; rfl
def encTab (t : Tab) : Dat := .agg [.lit (.string t.name), .slice (t.cols.map encCol), .lit (.int .i64 t.key), .slice (t.refs.map encRfr), .slice (t.checks.map encPred)]
theorem encTab_size (t : Tab) : (encTab t).size = 5 := rfl
theorem encCol_size (t : Col) : (encCol t).size = 2 := rfl
theorem encRfr_size (t : Rfr) : (encRfr t).size = 2 := rfl
theorem encPred_size (p : Pred) : (encPred p).size = 13 := by cases p; unfold encPred; rfl
theorem encPred_bytes (p : Pred) : (encPred p).bytes = 136 := by cases p; unfold encPred; rfl
abbrev t0 : Tab := ⟨⟨#[]⟩, [], 0, [], []⟩
abbrev c0 : Col := ⟨⟨#[]⟩, 0⟩
abbrev r0 : Rfr := ⟨[], 0⟩

/-- A slice of ints, of columns, of references, of predicates, of tables. -/
def IntS (w : World) (S : Nat → Prop) (A : Option Addr) (l : List Int) : Prop := Sl w S A (l.map encInt)
def ColS (w : World) (S : Nat → Prop) (A : Option Addr) (l : List Col) : Prop := Sl w S A (l.map encCol)
def RfrS (w : World) (S : Nat → Prop) (A : Option Addr) (l : List Rfr) : Prop := Sl w S A (l.map encRfr)
def PredS (w : World) (S : Nat → Prop) (A : Option Addr) (l : List Pred) : Prop := Sl w S A (l.map encPred)
def TabS (w : World) (S : Nat → Prop) (A : Option Addr) (l : List Tab) : Prop := Sl w S A (l.map encTab)

section
variable {w w' : World} {S S' : Nat → Prop} {A : Option Addr}
theorem Sl.at_ {α : Type} {enc : α → Dat} {n : Nat} {l : List α} (hs : ∀ a, (enc a).size = n) (d : α) (h : Sl w S A (l.map enc)) {k : Nat} (hk : k < l.length) : ∃ b off, A = some ⟨b, off, none⟩ ∧ S b ∧ Dat.Held w S (enc (l.getD k d)) b (off + k * n) := by
  obtain ⟨b, off, e, hb, hc⟩ := h.2 (by simp; omega)
  have h1 := heldAll_at (n := n) (fun d hd => by obtain ⟨v, _, rfl⟩ := List.mem_map.1 hd; exact hs v) hc k (by simpa using hk)
  rw [List.getElem_map] at h1
  have e2 : l.getD k d = l[k] := by simp [List.getD, hk]
  rw [e2]
  exact ⟨b, off, e, hb, h1⟩
theorem IntS.keep {l : List Int} (h : IntS w S A l) (hk : Same S w w') : IntS w' S A l := Sl.keep h hk
theorem IntS.more {l : List Int} (h : IntS w S A l) (hS : ∀ b, S b → S' b) : IntS w S' A l := Sl.more h hS
theorem IntS.len {l : List Int} (h : IntS w S A l) : l.length ≤ 17592186044416 := by have := h.1; rw [bytesAll_map (n := 8) (fun _ => rfl)] at this; omega
theorem IntS.nil_ : IntS w S A [] := Sl.nil_
theorem IntS.at_ {l : List Int} (h : IntS w S A l) {k : Nat} (hk : k < l.length) : ∃ b off, A = some ⟨b, off, none⟩ ∧ S b ∧ w.cell? ⟨b, off + k, none⟩ = some (.int .i64 (l.getD k 0)) := by
  obtain ⟨b, off, e, hb, h1⟩ := Sl.at_ (n := 1) (fun _ => rfl) 0 h hk
  rw [Nat.mul_one] at h1
  exact ⟨b, off, e, hb, by simpa [encInt, Dat.Held] using h1⟩
theorem ColS.keep {l : List Col} (h : ColS w S A l) (hk : Same S w w') : ColS w' S A l := Sl.keep h hk
theorem ColS.more {l : List Col} (h : ColS w S A l) (hS : ∀ b, S b → S' b) : ColS w S' A l := Sl.more h hS
theorem ColS.len {l : List Col} (h : ColS w S A l) : l.length ≤ 17592186044416 := by have := h.1; rw [bytesAll_map (n := 24) (fun _ => rfl)] at this; omega
theorem ColS.at_ {l : List Col} (h : ColS w S A l) {k : Nat} (hk : k < l.length) : ∃ b off, A = some ⟨b, off, none⟩ ∧ S b ∧ w.cell? ⟨b, off + k * 2, none⟩ = some (.string (l.getD k c0).name) ∧ w.cell? ⟨b, off + k * 2 + 1, none⟩ = some (.int .i64 (l.getD k c0).kind) := by
  obtain ⟨b, off, e, hb, h1⟩ := Sl.at_ encCol_size c0 h hk
  have h2 : w.cell? ⟨b, off + k * 2, none⟩ = some (.string (l.getD k c0).name) ∧ (l.getD k c0).name.size ≤ 9223372036854775807 ∧ w.cell? ⟨b, off + k * 2 + 1, none⟩ = some (.int .i64 (l.getD k c0).kind) := by simpa [encCol, Dat.Held, Dat.HeldAll, Dat.size, and_assoc] using h1
  exact ⟨b, off, e, hb, h2.1, h2.2.2⟩
theorem ColS.txt {l : List Col} (h : ColS w S A l) {k : Nat} (hk : k < l.length) : (l.getD k c0).name.size ≤ 9223372036854775807 := by
  obtain ⟨b, off, e, hb, h1⟩ := Sl.at_ encCol_size c0 h hk
  have h2 : w.cell? ⟨b, off + k * 2, none⟩ = some (.string (l.getD k c0).name) ∧ (l.getD k c0).name.size ≤ 9223372036854775807 ∧ w.cell? ⟨b, off + k * 2 + 1, none⟩ = some (.int .i64 (l.getD k c0).kind) := by simpa [encCol, Dat.Held, Dat.HeldAll, Dat.size, and_assoc] using h1
  exact h2.2.1
theorem RfrS.keep {l : List Rfr} (h : RfrS w S A l) (hk : Same S w w') : RfrS w' S A l := Sl.keep h hk
theorem RfrS.more {l : List Rfr} (h : RfrS w S A l) (hS : ∀ b, S b → S' b) : RfrS w S' A l := Sl.more h hS
theorem RfrS.len {l : List Rfr} (h : RfrS w S A l) : l.length ≤ 17592186044416 := by have := h.1; rw [bytesAll_map (n := 32) (fun _ => rfl)] at this; omega
theorem RfrS.at_ {l : List Rfr} (h : RfrS w S A l) {k : Nat} (hk : k < l.length) : ∃ b off, A = some ⟨b, off, none⟩ ∧ S b ∧ (∃ A' c, w.cell? ⟨b, off + k * 2, none⟩ = some (.slice A' (l.getD k r0).cols.length c) ∧ (l.getD k r0).cols.length ≤ c ∧ IntS w S A' (l.getD k r0).cols) ∧ w.cell? ⟨b, off + k * 2 + 1, none⟩ = some (.int .i64 (l.getD k r0).table) := by
  obtain ⟨b, off, e, hb, h1⟩ := Sl.at_ encRfr_size r0 h hk
  simp only [encRfr, Dat.Held, Dat.HeldAll, Dat.size, and_true, List.length_map, litOk_int] at h1
  obtain ⟨⟨A', c, h2, h3, h4, h5⟩, h6⟩ := h1
  exact ⟨b, off, e, hb, ⟨A', c, h2, h3, ⟨by simpa using h4, by simpa using h5⟩⟩, h6⟩
theorem PredS.keep {l : List Pred} (h : PredS w S A l) (hk : Same S w w') : PredS w' S A l := Sl.keep h hk
theorem PredS.more {l : List Pred} (h : PredS w S A l) (hS : ∀ b, S b → S' b) : PredS w S' A l := Sl.more h hS
theorem PredS.len {l : List Pred} (h : PredS w S A l) : l.length ≤ 17592186044416 := by have := h.1; rw [bytesAll_map (n := 136) (encPred_bytes)] at this; omega
theorem TabS.keep {l : List Tab} (h : TabS w S A l) (hk : Same S w w') : TabS w' S A l := Sl.keep h hk
theorem TabS.more {l : List Tab} (h : TabS w S A l) (hS : ∀ b, S b → S' b) : TabS w S' A l := Sl.more h hS
theorem TabS.len {l : List Tab} (h : TabS w S A l) : l.length ≤ 17592186044416 := by have := h.1; rw [bytesAll_map (n := 96) (fun _ => rfl)] at this; omega
/-- The cells of a table. -/
structure TabAt (w : World) (S : Nat → Prop) (b off : Nat) (t : Tab) (A1 A2 A3 : Option Addr) (c1 c2 c3 : Nat) : Prop where
  name : w.cell? ⟨b, off, none⟩ = some (.string t.name)
  cols : w.cell? ⟨b, off + 1, none⟩ = some (.slice A1 t.cols.length c1)
  key : w.cell? ⟨b, off + 2, none⟩ = some (.int .i64 t.key)
  refs : w.cell? ⟨b, off + 3, none⟩ = some (.slice A2 t.refs.length c2)
  checks : w.cell? ⟨b, off + 4, none⟩ = some (.slice A3 t.checks.length c3)
  cS : ColS w S A1 t.cols
  rS : RfrS w S A2 t.refs
  pS : PredS w S A3 t.checks
  cc : t.cols.length ≤ c1
  rc : t.refs.length ≤ c2
  pc : t.checks.length ≤ c3
  txt : t.name.size ≤ 9223372036854775807
theorem TabS.at_ {l : List Tab} (h : TabS w S A l) {k : Nat} (hk : k < l.length) : ∃ b off, A = some ⟨b, off, none⟩ ∧ S b ∧ ∃ A1 A2 A3 c1 c2 c3, TabAt w S b (off + k * 5) (l.getD k t0) A1 A2 A3 c1 c2 c3 := by
  obtain ⟨b, off, e, hb, h1⟩ := Sl.at_ encTab_size t0 h hk
  simp only [encTab, Dat.Held, Dat.HeldAll, Dat.size, and_true, List.length_map, litOk_int, litOk_string] at h1
  obtain ⟨⟨h1, h1'⟩, ⟨A1, c1, a1, a2, a3, a4⟩, h2, ⟨A2, c2, b1, b2, b3, b4⟩, A3, c3, d1, d2, d3, d4⟩ := h1
  exact ⟨b, off, e, hb, A1, A2, A3, c1, c2, c3, h1, a1, h2, b1, d1, ⟨by simpa using a3, by simpa using a4⟩, ⟨by simpa using b3, by simpa using b4⟩, ⟨by simpa using d3, by simpa using d4⟩, a2, b2, d2, h1'⟩
theorem TabAt.keep {b off : Nat} {t : Tab} {A1 A2 A3 : Option Addr} {c1 c2 c3 : Nat} (h : TabAt w S b off t A1 A2 A3 c1 c2 c3) (hk : Same S w w') (hb : S b) : TabAt w' S b off t A1 A2 A3 c1 c2 c3 :=
  ⟨(hk.cell hb).trans h.name, (hk.cell hb).trans h.cols, (hk.cell hb).trans h.key, (hk.cell hb).trans h.refs, (hk.cell hb).trans h.checks, h.cS.keep hk, h.rS.keep hk, h.pS.keep hk, h.cc, h.rc, h.pc, h.txt⟩
end
/-- A schema by value. -/
abbrev sAgg (v : Int) (A : Option Addr) (n c : Nat) : Value := .agg #[.int .i64 v, .slice A n c]
def hasT (s : Sch) (t : Int) : Bool := decide (0 ≤ t) && decide (t < s.tabs.length)
end Go.Proofs.Ytkpjjfhfbpfjpaa
