/- Words for memory: data with depth, read out of blocks of a set S. -/
import Derived.Test.YtkpjjfhfbpfjpaaProg
import Derived.WalkKit
import Derived.ProofKit
import Derived.Below
import Derived.Laws.OwnMore
import Derived.Deep.AppendLies
import Derived.Deep.Draws
import Derived.Lib.Hide
import Derived.Laws.Rows
namespace Go.Proofs.Ytkpjjfhfbpfjpaa
open Go.RowKit
set_option linter.unusedVariables false

theorem below_drewN {B : Nat} {a w : World} (h : Below B a w) (n : Nat) : Below B a (w.drewN n) := ⟨h.os, h.tape, h.output, h.size, h.block⟩

/-- The blocks of S are as they were. -/
def Same (S : Nat → Prop) (w w' : World) : Prop := ∀ b, S b → w'.heap[b]? = w.heap[b]?
theorem Same.cell {S : Nat → Prop} {w w' : World} (h : Same S w w') {b o : Nat} (hb : S b) : w'.cell? ⟨b, o, none⟩ = w.cell? ⟨b, o, none⟩ := World.cell?_of_block (h b hb)
theorem Same.of_below {S : Nat → Prop} {B : Nat} {w w' : World} (h : Below B w w') (hS : ∀ b, S b → b < B) : Same S w w' := fun b hb => h.block b (hS b hb)
theorem Same.of_grown {S : Nat → Prop} {w w' : World} {row : Option Nat} (h : w.grownBy w' row) (hS : ∀ b, S b → b < w.heap.size ∧ some b ≠ row) : Same S w w' := fun b hb => h.block b (hS b hb).1 (hS b hb).2
theorem Same.trans {S : Nat → Prop} {w w' w'' : World} (h : Same S w w') (h' : Same S w' w'') : Same S w w'' := fun b hb => (h' b hb).trans (h b hb)

/-- The greatest length of a slice that is read. -/
abbrev maxN : Nat := 17592186044416

/-- Data: a value of one cell, a slice, a struct. -/
inductive Dat
  | lit (v : Value)
  | slice (l : List Dat)
  | agg (l : List Dat)

mutual
/-- How many cells a datum takes. -/
def Dat.size : Dat → Nat
  | .lit _ => 1
  | .slice _ => 1
  | .agg l => Dat.sizes l
def Dat.sizes : List Dat → Nat
  | [] => 0
  | d :: r => d.size + Dat.sizes r
end
/-- How many bytes a value of one cell takes. -/
def litBytes : Value → Nat
  | .string _ => 16
  | _ => 8
mutual
/-- How many bytes a datum takes. -/
def Dat.bytes : Dat → Nat
  | .lit v => litBytes v
  | .slice _ => 24
  | .agg l => Dat.bytesAll l
def Dat.bytesAll : List Dat → Nat
  | [] => 0
  | d :: r => d.bytes + Dat.bytesAll r
end
theorem bytesAll_map {α : Type} {enc : α → Dat} {n : Nat} (h : ∀ a, (enc a).bytes = n) : ∀ l : List α, Dat.bytesAll (l.map enc) = l.length * n
  | [] => by simp [Dat.bytesAll]
  | a :: r => by simp only [List.map_cons, Dat.bytesAll, h a, bytesAll_map h r, List.length_cons, Nat.succ_mul]; omega
/-- A string is not longer than a string can be. -/
def litOk : Value → Prop
  | .string s => s.size ≤ 9223372036854775807
  | _ => True
@[simp] theorem litOk_int (k : IntKind) (n : Int) : litOk (.int k n) = True := rfl
@[simp] theorem litOk_string (s : ByteArray) : litOk (.string s) = (s.size ≤ 9223372036854775807) := rfl
mutual
/-- The datum lies at offset off of block b; what it leads to lies in blocks of S. -/
def Dat.Held (w : World) (S : Nat → Prop) : Dat → Nat → Nat → Prop
  | .lit v, b, off => w.cell? ⟨b, off, none⟩ = some v ∧ litOk v
  | .slice l, b, off => ∃ A c, w.cell? ⟨b, off, none⟩ = some (.slice A l.length c) ∧ l.length ≤ c ∧ Dat.bytesAll l ≤ 140737488355328 ∧ (0 < l.length → ∃ b' off', A = some ⟨b', off', none⟩ ∧ S b' ∧ Dat.HeldAll w S l b' off')
  | .agg l, b, off => Dat.HeldAll w S l b off
def Dat.HeldAll (w : World) (S : Nat → Prop) : List Dat → Nat → Nat → Prop
  | [], _, _ => True
  | d :: r, b, off => Dat.Held w S d b off ∧ Dat.HeldAll w S r b (off + d.size)
end
mutual
theorem Dat.Held.keep {w w' : World} {S : Nat → Prop} (hk : Same S w w') : ∀ (d : Dat) (b off : Nat), S b → Dat.Held w S d b off → Dat.Held w' S d b off
  | .lit v, b, off, hb, h => by unfold Dat.Held at h ⊢; exact ⟨(hk.cell hb).trans h.1, h.2⟩
  | .slice l, b, off, hb, h => by
    unfold Dat.Held at h ⊢
    obtain ⟨A, c, h1, h2, h3, h4⟩ := h
    refine ⟨A, c, (hk.cell hb).trans h1, h2, h3, fun hn => ?_⟩
    obtain ⟨b', off', e, hb', h5⟩ := h4 hn
    exact ⟨b', off', e, hb', Dat.HeldAll.keep hk l b' off' hb' h5⟩
  | .agg l, b, off, hb, h => by unfold Dat.Held at h ⊢; exact Dat.HeldAll.keep hk l b off hb h
theorem Dat.HeldAll.keep {w w' : World} {S : Nat → Prop} (hk : Same S w w') : ∀ (l : List Dat) (b off : Nat), S b → Dat.HeldAll w S l b off → Dat.HeldAll w' S l b off
  | [], _, _, _, _ => by unfold Dat.HeldAll; trivial
  | d :: r, b, off, hb, h => by
    unfold Dat.HeldAll at h ⊢
    exact ⟨Dat.Held.keep hk d b off hb h.1, Dat.HeldAll.keep hk r b _ hb h.2⟩
end
mutual
theorem Dat.Held.more {w : World} {S S' : Nat → Prop} (hS : ∀ b, S b → S' b) : ∀ (d : Dat) (b off : Nat), Dat.Held w S d b off → Dat.Held w S' d b off
  | .lit v, b, off, h => by unfold Dat.Held at h ⊢; exact h
  | .slice l, b, off, h => by
    unfold Dat.Held at h ⊢
    obtain ⟨A, c, h1, h2, h3, h4⟩ := h
    refine ⟨A, c, h1, h2, h3, fun hn => ?_⟩
    obtain ⟨b', off', e, hb', h5⟩ := h4 hn
    exact ⟨b', off', e, hS b' hb', Dat.HeldAll.more hS l b' off' h5⟩
  | .agg l, b, off, h => by unfold Dat.Held at h ⊢; exact Dat.HeldAll.more hS l b off h
theorem Dat.HeldAll.more {w : World} {S S' : Nat → Prop} (hS : ∀ b, S b → S' b) : ∀ (l : List Dat) (b off : Nat), Dat.HeldAll w S l b off → Dat.HeldAll w S' l b off
  | [], _, _, _ => by unfold Dat.HeldAll; trivial
  | d :: r, b, off, h => by
    unfold Dat.HeldAll at h ⊢
    exact ⟨Dat.Held.more hS d b off h.1, Dat.HeldAll.more hS r b _ h.2⟩
end

/-- What a slice value leads to. -/
def Sl (w : World) (S : Nat → Prop) (A : Option Addr) (l : List Dat) : Prop := Dat.bytesAll l ≤ 140737488355328 ∧ (0 < l.length → ∃ b off, A = some ⟨b, off, none⟩ ∧ S b ∧ Dat.HeldAll w S l b off)
section
variable {w w' : World} {S S' : Nat → Prop} {A : Option Addr} {l : List Dat}
theorem Sl.nil_ : Sl w S A [] := ⟨by simp [Dat.bytesAll], fun h => absurd h (by simp)⟩
theorem Sl.keep (h : Sl w S A l) (hk : Same S w w') : Sl w' S A l := ⟨h.1, fun hn => by
  obtain ⟨b, off, e, hb, h1⟩ := h.2 hn
  exact ⟨b, off, e, hb, Dat.HeldAll.keep hk l b off hb h1⟩⟩
theorem Sl.more (h : Sl w S A l) (hS : ∀ b, S b → S' b) : Sl w S' A l := ⟨h.1, fun hn => by
  obtain ⟨b, off, e, hb, h1⟩ := h.2 hn
  exact ⟨b, off, e, hS b hb, Dat.HeldAll.more hS l b off h1⟩⟩
end
theorem heldAll_at {w : World} {S : Nat → Prop} {n : Nat} : ∀ {l : List Dat} {b off : Nat}, (∀ d ∈ l, d.size = n) → Dat.HeldAll w S l b off → ∀ k (hk : k < l.length), Dat.Held w S l[k] b (off + k * n)
  | [], _, _, _, _, k, hk => by simp at hk
  | d :: r, b, off, hs, h, 0, _ => by
    unfold Dat.HeldAll at h
    simpa using h.1
  | d :: r, b, off, hs, h, k + 1, hk => by
    unfold Dat.HeldAll at h
    have hd := hs d (by simp)
    have := heldAll_at (fun x hx => hs x (by simp [hx])) h.2 k (by simpa using hk)
    rw [hd] at this
    rw [show off + (k + 1) * n = off + n + k * n by rw [Nat.succ_mul]; omega]
    simpa using this
theorem heldAll_of {w : World} {S : Nat → Prop} {n : Nat} : ∀ {l : List Dat} {b off : Nat}, (∀ d ∈ l, d.size = n) → (∀ k (hk : k < l.length), Dat.Held w S l[k] b (off + k * n)) → Dat.HeldAll w S l b off
  | [], _, _, _, _ => by unfold Dat.HeldAll; trivial
  | d :: r, b, off, hs, h => by
    unfold Dat.HeldAll
    have hd := hs d (by simp)
    have h0 : Dat.Held w S d b (off + 0 * n) := h 0 (by simp)
    refine ⟨by simpa using h0, heldAll_of (fun x hx => hs x (by simp [hx])) (fun k hk => ?_)⟩
    have : Dat.Held w S r[k] b (off + (k + 1) * n) := h (k + 1) (by simpa using hk)
    rw [hd]
    rw [show off + (k + 1) * n = off + n + k * n by rw [Nat.succ_mul]; omega] at this
    exact this
end Go.Proofs.Ytkpjjfhfbpfjpaa
