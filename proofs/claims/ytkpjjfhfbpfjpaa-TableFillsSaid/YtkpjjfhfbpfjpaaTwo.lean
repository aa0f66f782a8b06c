/- Two lists that one call owns at a time. -/
import Derived.Test.YtkpjjfhfbpfjpaaBeg
import Derived.Test.YtkpjjfhfbpfjpaaFillsP
namespace Go.Proofs.Ytkpjjfhfbpfjpaa
open Go.RowKit
set_option linter.unusedVariables false
set_option linter.unusedSimpArgs false

abbrev Beh2 (base : Nat) (w : World) (v1 v2 : Value) : Nat → Prop := fun b => base ≤ b ∧ b < w.heap.size ∧ some b ≠ v1.ownBlock ∧ some b ≠ v2.ownBlock
structure Two (W : World) (base : Nat) (v1 : Value) (l1 : List Dat) (e1 : TypeId) (s1 : Nat) (v2 : Value) (l2 : List Dat) (e2 : TypeId) (s2 : Nat) : Prop where
  o1 : OwnD W base e1 s1 (Beh2 base W v1 v2) v1 l1
  o2 : OwnD W base e2 s2 (Beh2 base W v1 v2) v2 l2
  ne : ∀ g, v1.ownBlock = some g → v2.ownBlock ≠ some g
section
variable {W Wa w3 : World} {base s1 s2 n g cap : Nat} {v1 v2 : Value} {l1 l2 : List Dat} {e1 e2 : TypeId} {vals news : List Value} {d : Dat}
theorem Two.swap (h : Two W base v1 l1 e1 s1 v2 l2 e2 s2) : Two W base v2 l2 e2 s2 v1 l1 e1 s1 :=
  ⟨h.o2.more (fun b hb => ⟨hb.1, hb.2.1, hb.2.2.2, hb.2.2.1⟩) (fun b hb => ⟨hb.2.1, hb.2.2.1⟩), h.o1.more (fun b hb => ⟨hb.1, hb.2.1, hb.2.2.2, hb.2.2.1⟩) (fun b hb => ⟨hb.2.1, hb.2.2.2⟩), fun g h1 h2 => h.ne g h2 h1⟩
theorem Two.start (W : World) (base : Nat) (e1 e2 : TypeId) (s1 s2 : Nat) : Two W base (.slice none 0 0) [] e1 s1 (.slice none 0 0) [] e2 s2 :=
  ⟨OwnD.nil_ (fun b hb => hb.2.1), OwnD.nil_ (fun b hb => hb.2.1), fun g h => by simp [Value.ownBlock] at h⟩
theorem Two.below (h : Two W base v1 l1 e1 s1 v2 l2 e2 s2) (hb : Below W.heap.size W Wa) : Two Wa base v1 l1 e1 s1 v2 l2 e2 s2 :=
  ⟨(h.o1.below hb).more (fun b hb' => ⟨hb'.1, Nat.lt_of_lt_of_le hb'.2.1 hb.size, hb'.2.2⟩) (fun b hb' => ⟨hb'.2.1, hb'.2.2.1⟩), (h.o2.below hb).more (fun b hb' => ⟨hb'.1, Nat.lt_of_lt_of_le hb'.2.1 hb.size, hb'.2.2⟩) (fun b hb' => ⟨hb'.2.1, hb'.2.2.2⟩), h.ne⟩
/-- One datum more at the first list; h is told of the world right before the append. -/
theorem Two.push (h : Two W base v1 l1 e1 s1 v2 l2 e2 s2) (hv : Dat.ValsAll W (Beh2 base W v1 v2) l1 vals) (hd : Dat.Vals W (Beh2 base W v1 v2) d news) (hn : n = l1.length + 1)
    (hown : w3.ownsRow base e1 s1 (.slice (some ⟨g, 0, none⟩) n cap) n (vals ++ news)) (hg : W.grownBy w3 v1.ownBlock) (hat : v1.ownBlock = some g ∨ g = W.heap.size) (hle : n = n) :
    Two w3 base (.slice (some ⟨g, 0, none⟩) n cap) (l1 ++ [d]) e1 s1 v2 l2 e2 s2 ∧ (∀ b, Beh2 base W v1 v2 b → Beh2 base w3 (.slice (some ⟨g, 0, none⟩) n cap) v2 b) ∧ Same (Beh2 base W v1 v2) W w3 := by
  have hs := hg.size
  have hk : Same (Beh2 base W v1 v2) W w3 := fun b hb => hg.block b hb.2.1 hb.2.2.1
  have hgo : ∀ b, b < W.heap.size → some b ≠ v1.ownBlock → some b ≠ (Value.slice (some ⟨g, 0, none⟩) n cap).ownBlock := fun b h1 h2 e => by
    have e' : b = g := by simpa [Value.ownBlock] using e
    rcases hat with hat | hat
    · exact h2 (by rw [hat, e'])
    · omega
  have hT : ∀ b, Beh2 base W v1 v2 b → Beh2 base w3 (.slice (some ⟨g, 0, none⟩) n cap) v2 b := fun b hb => ⟨hb.1, Nat.lt_of_lt_of_le hb.2.1 hs, hgo b hb.2.1 hb.2.2.1, hb.2.2.2⟩
  have hvb : ∀ g', v2.ownBlock = some g' → g' < W.heap.size ∧ some g' ≠ v1.ownBlock := fun g' hg' => ⟨by obtain ⟨_, q, _⟩ := h.o2; exact own_lt q hg', fun e => h.ne g' e.symm hg'⟩
  refine ⟨⟨?_, ?_, ?_⟩, hT, hk⟩
  · exact (own_push hv hd (fun b hb => ⟨hb.2.1, hb.2.2.1⟩) hn hown hg hat).more hT (fun b hb => ⟨hb.2.1, hb.2.2.1⟩)
  · exact (h.o2.keep hs hk (fun g' hg' => hg.block g' (hvb g' hg').1 (hvb g' hg').2)).more hT (fun b hb => ⟨hb.2.1, hb.2.2.2⟩)
  · intro g' h1 h2
    have e' : g = g' := by simpa [Value.ownBlock] using h1
    have := hvb g' h2
    exact hgo g' this.1 this.2 (by rw [← e']; rfl)
end
theorem take_rows {w : World} {S : Nat → Prop} {A : Option Addr} {l : List Row} (h : RowsS w S A l) (k : Nat) (hk : k ≤ l.length) : RowsS w S A (l.take k) := by
  obtain ⟨vs, h1, h2⟩ := Sl.vals h
  have h3 := (valsAll_take (n := 1) (fun _ => rfl) h1 k hk).1
  refine Sl.of_vals (by have := h.1; rw [bytesAll_map (n := 24) (fun _ => rfl)] at this ⊢; rw [List.length_take]; omega) h3 (fun h0 => ?_)
  obtain ⟨b, off, e, hb, hc⟩ := h2 (by simp at h0 ⊢; omega)
  exact ⟨b, off, e, hb, fun j u hu => hc j u (getElem?_of_take hu)⟩
theorem rowI_block {w : World} {S : Nat → Prop} {b k : Nat} (h : w.heap[b]? = some (.cells #[.int .i64 4, .int .i64 (k : Int), .string ⟨#[]⟩] 51 (0, 0))) (hS : S b) : RowS w S (some ⟨b, 0, none⟩) (rowI k) := by
  refine ⟨by rw [bytesAll_map (n := 32) (fun _ => rfl)]; simp [rowI], fun _ => ⟨b, 0, rfl, hS, held_of_vals _ b 0 (fun v hv => ?_) (fun j u hu => cells_of_block h j u hu)⟩⟩
  simp only [rowI, List.mem_singleton] at hv
  subst hv
  show (⟨#[]⟩ : ByteArray).size ≤ _
  decide
theorem col1_block {w : World} {S : Nat → Prop} {b : Nat} (h : w.heap[b]? = some (.cells #[.string ⟨#[105, 100]⟩, .int .i64 4] 34 (0, 0))) (hS : S b) : ColS w S (some ⟨b, 0, none⟩) [⟨⟨#[105, 100]⟩, 4⟩] := by
  have hc := cells_of_block h
  refine ⟨by rw [bytesAll_map (n := 24) (fun _ => rfl)]; simp, fun _ => ⟨b, 0, rfl, hS, ?_⟩⟩
  simp only [List.map_cons, List.map_nil, encCol, Dat.HeldAll, Dat.Held, Dat.size, Dat.sizes, and_true, litOk_int, litOk_string]
  exact ⟨⟨hc 0 _ rfl, by decide⟩, hc 1 _ rfl⟩
def sFs : Sch := sF ⟨#[116]⟩ ⟨#[105, 100]⟩
theorem sch_sF : schF pc0 sFs = 0 := by decide
theorem preds_sF : SchPreds pc0 sFs := by
  intro t ht p hp
  simp only [sFs, sF, List.mem_singleton] at ht
  subst ht
  simp at hp
end Go.Proofs.Ytkpjjfhfbpfjpaa
