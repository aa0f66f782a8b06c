/- Words for memory: what a slice of ints, of stamps and of logs reads as, within a set S of blocks. -/
import Derived.Test.YtjpknhhdkjhjfaaProg
import Derived.WalkKit
import Derived.ProofKit
import Derived.Below
import Derived.Laws.OwnMore
import Derived.Deep.AppendLies
import Derived.Deep.Draws
import Derived.Lib.Hide
import Derived.Laws.Rows
namespace Go.Proofs.Ytjpknhhdkjhjfaa
open Go.RowKit

theorem below_drewN {B : Nat} {a w : World} (h : Below B a w) (n : Nat) : Below B a (w.drewN n) := ⟨h.os, h.tape, h.output, h.size, h.block⟩

/-- The blocks of S are as they were. -/
def Same (S : Nat → Prop) (w w' : World) : Prop := ∀ b, S b → w'.heap[b]? = w.heap[b]?
theorem Same.cell {S : Nat → Prop} {w w' : World} (h : Same S w w') {b o : Nat} (hb : S b) : w'.cell? ⟨b, o, none⟩ = w.cell? ⟨b, o, none⟩ := World.cell?_of_block (h b hb)
theorem Same.of_below {S : Nat → Prop} {B : Nat} {w w' : World} (h : Below B w w') (hS : ∀ b, S b → b < B) : Same S w w' := fun b hb => h.block b (hS b hb)
theorem Same.of_grown {S : Nat → Prop} {w w' : World} {row : Option Nat} (h : w.grownBy w' row) (hS : ∀ b, S b → b < w.heap.size ∧ some b ≠ row) : Same S w w' := fun b hb => h.block b (hS b hb).1 (hS b hb).2

/-- The slice value '.slice A n c' holds the cells xs, in a block of S. -/
def Reads (w : World) (S : Nat → Prop) (size : Nat) (A : Option Addr) (n : Nat) (xs : List Value) : Prop :=
  xs.length = n * size ∧ (0 < n → ∃ b off, A = some ⟨b, off, none⟩ ∧ S b ∧ ∀ j u, xs[j]? = some u → w.cell? ⟨b, off + j, none⟩ = some u)

section
variable {w w' : World} {S S' : Nat → Prop} {size n : Nat} {A : Option Addr} {xs : List Value}
theorem Reads.none_ : Reads w S size A 0 [] := ⟨by simp, fun h => absurd h (by omega)⟩
theorem Reads.keep (h : Reads w S size A n xs) (hk : Same S w w') : Reads w' S size A n xs :=
  ⟨h.1, fun hn => by
    obtain ⟨b, off, e, hb, hc⟩ := h.2 hn
    exact ⟨b, off, e, hb, fun j u hu => (hk.cell hb).trans (hc j u hu)⟩⟩
theorem Reads.more (h : Reads w S size A n xs) (hS : ∀ b, S b → S' b) : Reads w S' size A n xs :=
  ⟨h.1, fun hn => by
    obtain ⟨b, off, e, hb, hc⟩ := h.2 hn
    exact ⟨b, off, e, hS b hb, hc⟩⟩
end

/-- A slice of ints. -/
def Ints (w : World) (S : Nat → Prop) (A : Option Addr) (l : List Int) : Prop := Reads w S 1 A l.length (l.map (Value.int .i64))

theorem Ints.at_ {w : World} {S : Nat → Prop} {A : Option Addr} {l : List Int} {k : Nat} (h : Ints w S A l) (hk : k < l.length) :
    ∃ b off, A = some ⟨b, off, none⟩ ∧ S b ∧ w.cell? ⟨b, off + k, none⟩ = some (.int .i64 (l.getD k 0)) := by
  obtain ⟨b, off, e, hb, hc⟩ := h.2 (by omega)
  exact ⟨b, off, e, hb, hc k _ (by simp [hk])⟩
theorem Ints.keep {w w' : World} {S : Nat → Prop} {A : Option Addr} {l : List Int} (h : Ints w S A l) (hk : Same S w w') : Ints w' S A l := Reads.keep h hk
theorem Ints.more {w : World} {S S' : Nat → Prop} {A : Option Addr} {l : List Int} (h : Ints w S A l) (hS : ∀ b, S b → S' b) : Ints w S' A l := Reads.more h hS

/-- The reader of codes at block g, its row of numbers in a block before g. -/
def CaseOk (w : World) (g : Nat) : Prop :=
  ∃ (A : Option Addr) (len cap p : Nat) (zs : List Int), w.heap[g]? = some (.cells #[.slice A len cap, .int .i64 p] 61 (0, 0)) ∧ p ≤ len ∧ len ≤ 1000 ∧ zs.length = len ∧ (∀ z ∈ zs, 0 ≤ z ∧ z ≤ 255) ∧
    (0 < len → ∃ b, A = some ⟨b, 0, none⟩ ∧ b < g ∧ ∀ j, j < len → w.cell? ⟨b, j, none⟩ = some (.int .u8 (zs.getD j 0)))
theorem CaseOk.lt {w : World} {g : Nat} (h : CaseOk w g) : g < w.heap.size := by
  obtain ⟨A, len, cap, p, zs, hb, _⟩ := h
  rcases Nat.lt_or_ge g w.heap.size with hlt | hge
  · exact hlt
  · rw [Array.getElem?_eq_none hge] at hb; cases hb
theorem CaseOk.keep {w w' : World} {g : Nat} (h : CaseOk w g) (hs : ∀ b, b ≤ g → w'.heap[b]? = w.heap[b]?) : CaseOk w' g := by
  obtain ⟨A, len, cap, p, zs, hb, h1, h2, h3, h4, h5⟩ := h
  refine ⟨A, len, cap, p, zs, (hs g (Nat.le_refl _)).trans hb, h1, h2, h3, h4, fun hl => ?_⟩
  obtain ⟨b, e, hbg, hc⟩ := h5 hl
  exact ⟨b, e, hbg, fun j hj => (World.cell?_of_block (w := w) (hs b (by omega))).trans (hc j hj)⟩
end Go.Proofs.Ytjpknhhdkjhjfaa
