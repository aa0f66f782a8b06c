/- Words for memory: data as lists of cells; lists of data that the call owns; worlds that have turned in few blocks. -/
import Derived.Test.YtkpjjfhfbpfjpaaFull
namespace Go.Proofs.Ytkpjjfhfbpfjpaa
open Go.RowKit
set_option linter.unusedVariables false

/-! ### Data as lists of cells -/
mutual
/-- The cells of a datum; what they lead to lies in blocks of S. -/
def Dat.Vals (w : World) (S : Nat → Prop) : Dat → List Value → Prop
  | .lit v, vs => vs = [v] ∧ litOk v
  | .slice l, vs => ∃ A c, vs = [.slice A l.length c] ∧ l.length ≤ c ∧ Sl w S A l
  | .agg l, vs => Dat.ValsAll w S l vs
def Dat.ValsAll (w : World) (S : Nat → Prop) : List Dat → List Value → Prop
  | [], vs => vs = []
  | d :: r, vs => ∃ a b, vs = a ++ b ∧ Dat.Vals w S d a ∧ Dat.ValsAll w S r b
end
mutual
/-- Every value of one cell in it is one. -/
def Dat.Plain : Dat → Prop
  | .lit v => v.oneCell' = true
  | .slice _ => True
  | .agg l => Dat.PlainAll l
def Dat.PlainAll : List Dat → Prop
  | [] => True
  | d :: r => Dat.Plain d ∧ Dat.PlainAll r
end
theorem plainAll_map {α : Type} {enc : α → Dat} (h : ∀ a, (enc a).Plain) : ∀ l : List α, Dat.PlainAll (l.map enc)
  | [] => by simp [Dat.PlainAll]
  | a :: r => by simp only [List.map_cons, Dat.PlainAll]; exact ⟨h a, plainAll_map h r⟩
section
variable {w w' : World} {S S' : Nat → Prop}
mutual
theorem Dat.Vals.keep (hk : Same S w w') : ∀ (d : Dat) (vs : List Value), Dat.Vals w S d vs → Dat.Vals w' S d vs
  | .lit v, vs, h => by unfold Dat.Vals at h ⊢; exact h
  | .slice l, vs, h => by
    unfold Dat.Vals at h ⊢
    obtain ⟨A, c, h1, h2, h3⟩ := h
    exact ⟨A, c, h1, h2, h3.keep hk⟩
  | .agg l, vs, h => by unfold Dat.Vals at h ⊢; exact Dat.ValsAll.keep hk l vs h
theorem Dat.ValsAll.keep (hk : Same S w w') : ∀ (l : List Dat) (vs : List Value), Dat.ValsAll w S l vs → Dat.ValsAll w' S l vs
  | [], vs, h => by unfold Dat.ValsAll at h ⊢; exact h
  | d :: r, vs, h => by
    unfold Dat.ValsAll at h ⊢
    obtain ⟨a, b, e, h1, h2⟩ := h
    exact ⟨a, b, e, Dat.Vals.keep hk d a h1, Dat.ValsAll.keep hk r b h2⟩
end
mutual
theorem Dat.Vals.more (hk : ∀ b, S b → S' b) : ∀ (d : Dat) (vs : List Value), Dat.Vals w S d vs → Dat.Vals w S' d vs
  | .lit v, vs, h => by unfold Dat.Vals at h ⊢; exact h
  | .slice l, vs, h => by
    unfold Dat.Vals at h ⊢
    obtain ⟨A, c, h1, h2, h3⟩ := h
    exact ⟨A, c, h1, h2, h3.more hk⟩
  | .agg l, vs, h => by unfold Dat.Vals at h ⊢; exact Dat.ValsAll.more hk l vs h
theorem Dat.ValsAll.more (hk : ∀ b, S b → S' b) : ∀ (l : List Dat) (vs : List Value), Dat.ValsAll w S l vs → Dat.ValsAll w S' l vs
  | [], vs, h => by unfold Dat.ValsAll at h ⊢; exact h
  | d :: r, vs, h => by
    unfold Dat.ValsAll at h ⊢
    obtain ⟨a, b, e, h1, h2⟩ := h
    exact ⟨a, b, e, Dat.Vals.more hk d a h1, Dat.ValsAll.more hk r b h2⟩
end
mutual
theorem Dat.Vals.len : ∀ (d : Dat) (vs : List Value), Dat.Vals w S d vs → vs.length = d.size
  | .lit v, vs, h => by unfold Dat.Vals at h; rw [h.1]; simp [Dat.size]
  | .slice l, vs, h => by
    unfold Dat.Vals at h
    obtain ⟨A, c, h1, _⟩ := h
    rw [h1]; simp [Dat.size]
  | .agg l, vs, h => by unfold Dat.Vals at h; simp only [Dat.size]; exact Dat.ValsAll.len l vs h
theorem Dat.ValsAll.len : ∀ (l : List Dat) (vs : List Value), Dat.ValsAll w S l vs → vs.length = Dat.sizes l
  | [], vs, h => by unfold Dat.ValsAll at h; rw [h]; simp [Dat.sizes]
  | d :: r, vs, h => by
    unfold Dat.ValsAll at h
    obtain ⟨a, b, e, h1, h2⟩ := h
    rw [e, List.length_append, Dat.Vals.len d a h1, Dat.ValsAll.len r b h2]
    simp [Dat.sizes]
end
mutual
theorem Dat.Vals.one : ∀ (d : Dat) (vs : List Value), d.Plain → Dat.Vals w S d vs → ∀ u ∈ vs, u.oneCell' = true
  | .lit v, vs, hp, h, u, hu => by
    unfold Dat.Vals at h
    unfold Dat.Plain at hp
    rw [h.1] at hu
    rw [List.mem_singleton] at hu
    rw [hu]; exact hp
  | .slice l, vs, hp, h, u, hu => by
    unfold Dat.Vals at h
    obtain ⟨A, c, h1, _⟩ := h
    rw [h1, List.mem_singleton] at hu
    rw [hu]; rfl
  | .agg l, vs, hp, h, u, hu => by
    unfold Dat.Vals at h
    unfold Dat.Plain at hp
    exact Dat.ValsAll.one l vs hp h u hu
theorem Dat.ValsAll.one : ∀ (l : List Dat) (vs : List Value), Dat.PlainAll l → Dat.ValsAll w S l vs → ∀ u ∈ vs, u.oneCell' = true
  | [], vs, _, h, u, hu => by unfold Dat.ValsAll at h; rw [h] at hu; simp at hu
  | d :: r, vs, hp, h, u, hu => by
    unfold Dat.ValsAll at h
    unfold Dat.PlainAll at hp
    obtain ⟨a, b, e, h1, h2⟩ := h
    rw [e, List.mem_append] at hu
    rcases hu with hu | hu
    · exact Dat.Vals.one d a hp.1 h1 u hu
    · exact Dat.ValsAll.one r b hp.2 h2 u hu
end
/-- Values in cells one after another. -/
def CellsAt (w : World) (b off : Nat) (vs : List Value) : Prop := ∀ j u, vs[j]? = some u → w.cell? ⟨b, off + j, none⟩ = some u
theorem CellsAt.left {b off : Nat} {x y : List Value} (h : CellsAt w b off (x ++ y)) : CellsAt w b off x := fun j u hu => h j u (by rw [List.getElem?_append_left (List.getElem?_eq_some_iff.1 hu).1]; exact hu)
theorem CellsAt.right {b off : Nat} {x y : List Value} (h : CellsAt w b off (x ++ y)) : CellsAt w b (off + x.length) y := fun j u hu => by
  have := h (x.length + j) u (by rw [List.getElem?_append_right (by omega)]; simpa using hu)
  rwa [show off + (x.length + j) = off + x.length + j by omega] at this
theorem CellsAt.join {b off : Nat} {x y : List Value} (h : CellsAt w b off x) (h' : CellsAt w b (off + x.length) y) : CellsAt w b off (x ++ y) := fun j u hu => by
  rcases Nat.lt_or_ge j x.length with hj | hj
  · rw [List.getElem?_append_left hj] at hu
    exact h j u hu
  · rw [List.getElem?_append_right hj] at hu
    have := h' (j - x.length) u hu
    rwa [show off + x.length + (j - x.length) = off + j by omega] at this
theorem CellsAt.add {b off : Nat} {x : List Value} (h : CellsAt w b off x) : ∀ j u, x[j]? = some u → w.cell? ((⟨b, off, none⟩ : Addr).add j) = some u := fun j u hu => by rw [add_none]; exact h j u hu
theorem CellsAt.keep {b off : Nat} {x : List Value} (h : CellsAt w b off x) (hk : w'.heap[b]? = w.heap[b]?) : CellsAt w' b off x := fun j u hu => (World.cell?_of_block (w := w) (a := ⟨b, off + j, none⟩) hk).trans (h j u hu)
mutual
theorem held_cells : ∀ (d : Dat) (b off : Nat), Dat.Held w S d b off → ∃ vs, Dat.Vals w S d vs ∧ CellsAt w b off vs
  | .lit v, b, off, h => by
    unfold Dat.Held at h
    refine ⟨[v], by unfold Dat.Vals; exact ⟨rfl, h.2⟩, fun j u hu => ?_⟩
    cases j with
    | zero => simp only [List.getElem?_cons_zero, Option.some.injEq] at hu; subst hu; exact h.1
    | succ j => simp at hu
  | .slice l, b, off, h => by
    unfold Dat.Held at h
    obtain ⟨A, c, h1, h2, h3, h4⟩ := h
    refine ⟨[.slice A l.length c], by unfold Dat.Vals; exact ⟨A, c, rfl, h2, h3, h4⟩, fun j u hu => ?_⟩
    cases j with
    | zero => simp only [List.getElem?_cons_zero, Option.some.injEq] at hu; subst hu; exact h1
    | succ j => simp at hu
  | .agg l, b, off, h => by unfold Dat.Held at h; unfold Dat.Vals; exact heldAll_cells l b off h
theorem heldAll_cells : ∀ (l : List Dat) (b off : Nat), Dat.HeldAll w S l b off → ∃ vs, Dat.ValsAll w S l vs ∧ CellsAt w b off vs
  | [], b, off, _ => ⟨[], by unfold Dat.ValsAll; rfl, fun j u hu => by simp at hu⟩
  | d :: r, b, off, h => by
    unfold Dat.HeldAll at h
    obtain ⟨v1, h1, h2⟩ := held_cells d b off h.1
    obtain ⟨v2, h3, h4⟩ := heldAll_cells r b _ h.2
    refine ⟨v1 ++ v2, by unfold Dat.ValsAll; exact ⟨v1, v2, rfl, h1, h3⟩, h2.join ?_⟩
    rw [Dat.Vals.len d v1 h1]; exact h4
end
mutual
theorem held_of_cells : ∀ (d : Dat) (vs : List Value) (b off : Nat), Dat.Vals w S d vs → CellsAt w b off vs → Dat.Held w S d b off
  | .lit v, vs, b, off, h, hc => by
    unfold Dat.Vals at h
    unfold Dat.Held
    exact ⟨hc 0 v (by rw [h.1]; rfl), h.2⟩
  | .slice l, vs, b, off, h, hc => by
    unfold Dat.Vals at h
    unfold Dat.Held
    obtain ⟨A, c, h1, h2, h3, h4⟩ := h
    exact ⟨A, c, hc 0 _ (by rw [h1]; rfl), h2, h3, h4⟩
  | .agg l, vs, b, off, h, hc => by unfold Dat.Vals at h; unfold Dat.Held; exact heldAll_of_cells l vs b off h hc
theorem heldAll_of_cells : ∀ (l : List Dat) (vs : List Value) (b off : Nat), Dat.ValsAll w S l vs → CellsAt w b off vs → Dat.HeldAll w S l b off
  | [], vs, b, off, _, _ => by unfold Dat.HeldAll; trivial
  | d :: r, vs, b, off, h, hc => by
    unfold Dat.ValsAll at h
    unfold Dat.HeldAll
    obtain ⟨x, y, e, h1, h2⟩ := h
    subst e
    refine ⟨held_of_cells d x b off h1 hc.left, heldAll_of_cells r y b _ h2 ?_⟩
    have := hc.right
    rwa [Dat.Vals.len d x h1] at this
end
theorem Sl.vals {A : Option Addr} {l : List Dat} (h : Sl w S A l) : ∃ vs, Dat.ValsAll w S l vs ∧ (0 < l.length → ∃ b off, A = some ⟨b, off, none⟩ ∧ S b ∧ CellsAt w b off vs) := by
  rcases Nat.eq_zero_or_pos l.length with h0 | h0
  · have : l = [] := List.eq_nil_of_length_eq_zero h0
    subst this
    exact ⟨[], by unfold Dat.ValsAll; rfl, fun h => by simp at h⟩
  · obtain ⟨b, off, e, hb, hc⟩ := h.2 h0
    obtain ⟨vs, h1, h2⟩ := heldAll_cells l b off hc
    exact ⟨vs, h1, fun _ => ⟨b, off, e, hb, h2⟩⟩
theorem Sl.of_vals {A : Option Addr} {l : List Dat} {vs : List Value} (hl : Dat.bytesAll l ≤ 140737488355328) (h : Dat.ValsAll w S l vs) (hc : 0 < l.length → ∃ b off, A = some ⟨b, off, none⟩ ∧ S b ∧ CellsAt w b off vs) : Sl w S A l :=
  ⟨hl, fun hn => by
    obtain ⟨b, off, e, hb, h1⟩ := hc hn
    exact ⟨b, off, e, hb, heldAll_of_cells l vs b off h h1⟩⟩
theorem valsAll_append : ∀ {l l' : List Dat} {vs vs' : List Value}, Dat.ValsAll w S l vs → Dat.ValsAll w S l' vs' → Dat.ValsAll w S (l ++ l') (vs ++ vs')
  | [], _, _, _, h, h' => by unfold Dat.ValsAll at h; rw [h]; exact h'
  | d :: r, l', vs, vs', h, h' => by
    unfold Dat.ValsAll at h
    obtain ⟨a, b, e, h1, h2⟩ := h
    rw [List.cons_append]
    unfold Dat.ValsAll
    exact ⟨a, b ++ vs', by rw [e, List.append_assoc], h1, valsAll_append h2 h'⟩
theorem valsAll_one {d : Dat} {vs : List Value} (h : Dat.Vals w S d vs) : Dat.ValsAll w S [d] vs := by
  unfold Dat.ValsAll
  exact ⟨vs, [], by simp, h, by unfold Dat.ValsAll; rfl⟩
theorem valsAll_split : ∀ {l l' : List Dat} {vs : List Value}, Dat.ValsAll w S (l ++ l') vs → ∃ a b, vs = a ++ b ∧ Dat.ValsAll w S l a ∧ Dat.ValsAll w S l' b
  | [], _, vs, h => ⟨[], vs, by simp, by unfold Dat.ValsAll; rfl, h⟩
  | d :: r, l', vs, h => by
    rw [List.cons_append] at h
    unfold Dat.ValsAll at h
    obtain ⟨a, b, e, h1, h2⟩ := h
    obtain ⟨x, y, e', h3, h4⟩ := valsAll_split h2
    exact ⟨a ++ x, y, by rw [e, e', List.append_assoc], by unfold Dat.ValsAll; exact ⟨a, x, rfl, h1, h3⟩, h4⟩
theorem sizes_uniform {n : Nat} : ∀ {l : List Dat}, (∀ d ∈ l, d.size = n) → Dat.sizes l = l.length * n
  | [], _ => by simp [Dat.sizes]
  | d :: r, h => by
    have h1 := h d (by simp)
    have h2 := sizes_uniform (l := r) (fun x hx => h x (by simp [hx]))
    simp only [Dat.sizes, List.length_cons, Nat.succ_mul, h1, h2]
    omega
theorem sizes_map {α : Type} {enc : α → Dat} {n : Nat} (h : ∀ a, (enc a).size = n) (l : List α) : Dat.sizes (l.map enc) = l.length * n := by
  rw [sizes_uniform (n := n) (fun d hd => by obtain ⟨a, _, rfl⟩ := List.mem_map.1 hd; exact h a), List.length_map]
theorem valsAll_take {α : Type} {enc : α → Dat} {n : Nat} (hs : ∀ a, (enc a).size = n) {l : List α} {vs : List Value} (h : Dat.ValsAll w S (l.map enc) vs) (k : Nat) (hk : k ≤ l.length) : Dat.ValsAll w S ((l.take k).map enc) (vs.take (k * n)) ∧ Dat.ValsAll w S ((l.drop k).map enc) (vs.drop (k * n)) := by
  rw [← List.take_append_drop k l, List.map_append] at h
  obtain ⟨a, b, e, h1, h2⟩ := valsAll_split h
  have hl : a.length = k * n := by rw [Dat.ValsAll.len _ a h1, sizes_map hs, List.length_take, Nat.min_eq_left hk]
  subst e
  rw [← hl, List.take_left, List.drop_left]
  exact ⟨h1, h2⟩
end

/-! ### Lists that the call owns -/
/-- The slice v owns the data l; what they lead to lies in blocks of S, none of which is v's own. -/
def OwnD (w : World) (base : Nat) (e : TypeId) (size : Nat) (S : Nat → Prop) (v : Value) (l : List Dat) : Prop :=
  ∃ vals, w.ownsRow base e size v l.length vals ∧ Dat.ValsAll w S l vals ∧ ∀ b, S b → b < w.heap.size ∧ some b ≠ v.ownBlock
section
variable {w w' : World} {S S' : Nat → Prop} {base size : Nat} {e : TypeId} {v v' : Value} {l : List Dat}
theorem OwnD.nil_ (hS : ∀ b, S b → b < w.heap.size) : OwnD w base e size S (.slice none 0 0) [] :=
  ⟨[], World.ownsRow_nil _ _ _ _, by unfold Dat.ValsAll; rfl, fun b hb => ⟨hS b hb, by simp [Value.ownBlock]⟩⟩
theorem ownsRow_keep {n : Nat} {xs : List Value} (h : w.ownsRow base e size v n xs) (hk : ∀ g, v.ownBlock = some g → w'.heap[g]? = w.heap[g]?) : w'.ownsRow base e size v n xs := by
  refine ⟨h.1, ?_⟩
  rcases h.2 with h0 | ⟨g, cap, cur, rfl, h1, h2, h3⟩
  · exact .inl h0
  · exact .inr ⟨g, cap, cur, rfl, h1, (hk g rfl).trans h2, h3⟩
theorem OwnD.keep (h : OwnD w base e size S v l) (hsz : w.heap.size ≤ w'.heap.size) (hk : Same S w w') (hv : ∀ g, v.ownBlock = some g → w'.heap[g]? = w.heap[g]?) : OwnD w' base e size S v l := by
  obtain ⟨vals, h1, h2, h3⟩ := h
  exact ⟨vals, ownsRow_keep h1 hv, Dat.ValsAll.keep hk l vals h2, fun b hb => ⟨Nat.lt_of_lt_of_le (h3 b hb).1 hsz, (h3 b hb).2⟩⟩
theorem own_lt {n : Nat} {xs : List Value} (h : w.ownsRow base e size v n xs) {g : Nat} (hg : v.ownBlock = some g) : g < w.heap.size := by
  obtain ⟨_, cur, hh⟩ := owns_block h hg
  exact lt_of_heap hh
theorem OwnD.below (h : OwnD w base e size S v l) (hb : Below w.heap.size w w') : OwnD w' base e size S v l := by
  obtain ⟨vals, h1, h2, h3⟩ := h
  exact OwnD.keep ⟨vals, h1, h2, h3⟩ hb.size (fun b hb' => hb.block b (h3 b hb').1) (fun g hg => hb.block g (own_lt h1 hg))
theorem OwnD.more (h : OwnD w base e size S v l) (hS : ∀ b, S b → S' b) (hS' : ∀ b, S' b → b < w.heap.size ∧ some b ≠ v.ownBlock) : OwnD w base e size S' v l := by
  obtain ⟨vals, h1, h2, h3⟩ := h
  exact ⟨vals, h1, Dat.ValsAll.more hS l vals h2, hS'⟩
/-- One datum more. -/
theorem own_push {vals news : List Value} {d : Dat} {g cap n : Nat} (hv : Dat.ValsAll w S l vals) (hd : Dat.Vals w S d news) (hS : ∀ b, S b → b < w.heap.size ∧ some b ≠ v.ownBlock) (hn : n = l.length + 1)
    (hown : w'.ownsRow base e size (.slice (some ⟨g, 0, none⟩) n cap) n (vals ++ news)) (hg : w.grownBy w' v.ownBlock) (hat : v.ownBlock = some g ∨ g = w.heap.size) : OwnD w' base e size S (.slice (some ⟨g, 0, none⟩) n cap) (l ++ [d]) := by
  have hk : Same S w w' := fun b hb => hg.block b (hS b hb).1 (hS b hb).2
  refine ⟨vals ++ news, by rw [List.length_append, List.length_singleton, ← hn]; exact hown, valsAll_append (Dat.ValsAll.keep hk _ _ hv) (valsAll_one (Dat.Vals.keep hk _ _ hd)), fun b hb => ⟨Nat.lt_of_lt_of_le (hS b hb).1 hg.size, ?_⟩⟩
  intro e'
  have e2 : b = g := by simpa [Value.ownBlock] using e'
  rcases hat with hat | hat
  · exact (hS b hb).2 (by rw [hat, e2])
  · have := (hS b hb).1; omega
theorem OwnD.slice {A : Option Addr} {n c : Nat} (h : OwnD w base e size S (.slice A n c) l) (hl : Dat.bytesAll l ≤ 140737488355328) (hT : ∀ b, S b → S' b) (hT' : ∀ g, base ≤ g → g < w.heap.size → (Value.slice A n c).ownBlock = some g → S' g) : n = l.length ∧ n ≤ c ∧ Sl w S' A l := by
  obtain ⟨vals, h1, h2, h3⟩ := h
  have hn : n = l.length := by
    rcases h1.2 with ⟨e1, h0⟩ | ⟨g, cap, cur, e1, _⟩
    · injection e1 with _ e2 _; omega
    · injection e1
  subst hn
  refine ⟨rfl, own_cap h1 rfl, Sl.of_vals hl (Dat.ValsAll.more hT l vals h2) (fun h0 => ?_)⟩
  obtain ⟨g, e1, hb, hlt, hc⟩ := row_cells h1 h0
  exact ⟨g, 0, e1, hT' g hb hlt (by rw [e1]; rfl), fun j u hu => by rw [Nat.zero_add]; exact hc j u hu⟩
end

/-! ### Worlds that have turned in few blocks -/
/-- Nothing has turned but blocks of X; new blocks may have come. -/
structure Fr (X : Nat → Prop) (w w' : World) : Prop where
  os : w'.os = w.os
  tape : w'.tape = w.tape
  output : w'.output = w.output
  size : w.heap.size ≤ w'.heap.size
  block : ∀ b, b < w.heap.size → ¬ X b → w'.heap[b]? = w.heap[b]?
section
variable {X Y : Nat → Prop} {w w' w'' : World}
theorem Fr.refl (X : Nat → Prop) (w : World) : Fr X w w := ⟨rfl, rfl, rfl, Nat.le_refl _, fun _ _ _ => rfl⟩
theorem Fr.trans (h : Fr X w w') (h' : Fr Y w' w'') (hY : ∀ b, b < w.heap.size → Y b → X b) : Fr X w w'' :=
  ⟨h'.os.trans h.os, h'.tape.trans h.tape, h'.output.trans h.output, Nat.le_trans h.size h'.size, fun b hb hx => (h'.block b (Nat.lt_of_lt_of_le hb h.size) (fun hy => hx (hY b hb hy))).trans (h.block b hb hx)⟩
theorem Fr.of_below (h : Below w.heap.size w w') : Fr X w w' := ⟨h.os, h.tape, h.output, h.size, fun b hb _ => h.block b hb⟩
theorem Fr.of_grown {r : Option Nat} (h : w.grownBy w' r) (hX : ∀ b, b < w.heap.size → some b = r → X b) : Fr X w w' := ⟨h.os, h.tape, h.output, h.size, fun b hb hx => h.block b hb (fun e => hx (hX b hb e))⟩
theorem Fr.mono (h : Fr X w w') (hX : ∀ b, b < w.heap.size → X b → Y b) : Fr Y w w' := ⟨h.os, h.tape, h.output, h.size, fun b hb hy => h.block b hb (fun hx => hy (hX b hb hx))⟩
theorem Fr.below {n : Nat} (h : Fr X w w') (hn : n ≤ w.heap.size) (hX : ∀ b, b < n → ¬ X b) : Below n w w' := ⟨h.os, h.tape, h.output, h.size, fun b hb => h.block b (by omega) (hX b hb)⟩
theorem Fr.alloc (h : Fr X w w') (o : Obj) : Fr X w (w'.alloc o) := h.trans (Y := fun _ => False) (Fr.of_below ((Below.refl _ _).alloc (Nat.le_refl _) o)) (fun _ _ h => h.elim)
theorem Fr.drewN (h : Fr X w w') (n : Nat) : Fr X w (w'.drewN n) := ⟨h.os, h.tape, h.output, h.size, h.block⟩
theorem Fr.drew (h : Fr X w w') : Fr X w w'.drew := ⟨h.os, h.tape, h.output, h.size, h.block⟩
theorem Fr.same {S : Nat → Prop} (h : Fr X w w') (hS : ∀ b, S b → b < w.heap.size ∧ ¬ X b) : Same S w w' := fun b hb => h.block b (hS b hb).1 (hS b hb).2
theorem Fr.cell (h : Fr X w w') {b o : Nat} (hb : b < w.heap.size) (hx : ¬ X b) : w'.cell? ⟨b, o, none⟩ = w.cell? ⟨b, o, none⟩ := World.cell?_of_block (h.block b hb hx)
theorem Fr.setCell (h : Fr X w w') {g o : Nat} (v : Value) (hg : g < w.heap.size → X g) : Fr X w (w'.setCell ⟨g, o, none⟩ v) :=
  ⟨h.os, h.tape, h.output, by simpa using h.size, fun b hb hx => (Below.heap_setCell w' ⟨g, o, none⟩ v b (fun e => by subst e; exact hx (hg hb))).trans (h.block b hb hx)⟩
end
end Go.Proofs.Ytkpjjfhfbpfjpaa
