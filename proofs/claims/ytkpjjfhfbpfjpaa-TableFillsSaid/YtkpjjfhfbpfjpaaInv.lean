/- Contract: table.Invert. -/
import Derived.Test.YtkpjjfhfbpfjpaaBack
namespace Go.Proofs.Ytkpjjfhfbpfjpaa
open Go.RowKit Go.Shelf
set_option linter.unusedVariables false
set_option linter.unusedSimpArgs false

def invC (c : Chg) : Chg := ⟨c.table, c.new, c.old⟩
def invF (l : List Chg) : List Chg := l.reverse.map invC
theorem dn_map (l : List Chg) : (dn l.length l.length).map (fun x => invC (l.getD x.1 chg0)) = invF l := by
  have key : ∀ k, k ≤ l.length → (dn l.length k).map (fun x => invC (l.getD x.1 chg0)) = (l.reverse.take k).map invC := by
    intro k
    induction k with
    | zero => intro _; rfl
    | succ k ih =>
      intro hk
      rw [dn_succ (by omega), List.map_append, ih (by omega), List.take_succ_eq_append_getElem (by simp; omega), List.map_append]
      simp [List.getD, show l.length - 1 - k < l.length by omega]
  have := key l.length (Nat.le_refl _)
  rw [this, List.take_of_length_le (by simp)]
  rfl
/-- A block of cells. -/
def IsC (W : World) (b : Nat) : Prop := ∃ cs t fr, W.heap[b]? = some (.cells cs t fr)
theorem IsC.lt {W : World} {b : Nat} (h : IsC W b) : b < W.heap.size := by obtain ⟨_, _, _, h⟩ := h; exact lt_of_heap h
theorem own_isC {w : World} {base size n : Nat} {e : TypeId} {v : Value} {xs : List Value} (h : w.ownsRow base e size v n xs) {g : Nat} (hg : v.ownBlock = some g) : IsC w g := by
  obtain ⟨_, cur, hh⟩ := owns_block h hg
  exact ⟨_, _, _, hh⟩
theorem own_row_set {w : World} {base c : Nat} {A : Option Addr} {r : Row} (h : w.ownsRow base 51 3 (.slice A r.length c) r.length (rowVals r)) (hl : RowOk r) : r.length ≤ c ∧ RowS w (fun b => some b = (Value.slice A r.length c).ownBlock) A r := by
  refine ⟨own_cap h rfl, ⟨by have := hl.1; rw [bytesAll_map (n := 32) (fun _ => rfl)]; omega, fun hn => ?_⟩⟩
  obtain ⟨g, e, hb, hlt, hc⟩ := row_cells h (by simpa using hn)
  exact ⟨g, 0, e, by rw [e]; rfl, held_of_vals r g 0 hl.2 (fun j u hu => by rw [Nat.zero_add]; exact hc j u hu)⟩
/-- What Invert has collected, in the box B1. -/
def InvI (w : World) (B1 : Nat) (l : List Chg) (pre : List { x : Nat // x < l.length }) (W : World) : Prop :=
  ∃ (Av : Option Addr) (cv : Nat) (T : Nat → Prop), Boxed W B1 48 (.slice Av pre.length cv) ∧ OwnD W w.heap.size 53 3 T (.slice Av pre.length cv) ((pre.map (fun x => invC (l.getD x.1 chg0))).map encChg) ∧ (∀ b, T b → w.heap.size ≤ b ∧ b ≠ B1 ∧ IsC W b) ∧ Below w.heap.size w W ∧ B1 + 2 ≤ W.heap.size ∧ ∀ g, (Value.slice Av pre.length cv).ownBlock = some g → g ≠ B1 + 1
theorem invI_own (w : World) (B1 B : Nat) (l : List Chg) (hB : w.heap.size ≤ B) : OwnFrom B (InvI w B1 l) := by
  intro pre W W' row h hg hr
  obtain ⟨Av, cv, T, h1, h2, h3, h4, h5, h6⟩ := h
  have hne : ∀ b, IsC W b → W'.heap[b]? = W.heap[b]? := fun b hb => hg.block b hb.lt (fun e => by
    obtain ⟨_, o, ho, hc⟩ := hr b e.symm
    obtain ⟨cs, t, fr, hb⟩ := hb
    rw [hb] at ho
    injection ho with ho
    subst ho
    cases hc)
  have hC : ∀ b, IsC W b → IsC W' b := fun b hb => by
    have := hne b hb
    obtain ⟨cs, t, fr, hb⟩ := hb
    exact ⟨cs, t, fr, this.trans hb⟩
  refine ⟨Av, cv, T, (hne B1 ⟨_, _, _, h1⟩).trans h1, h2.keep hg.size (fun b hb => hne b (h3 b hb).2.2) (fun g hg' => by obtain ⟨_, q, _⟩ := h2; exact hne g (own_isC q hg')), fun b hb => ⟨(h3 b hb).1, (h3 b hb).2.1, hC b (h3 b hb).2.2⟩, ⟨hg.os.trans h4.os, hg.tape.trans h4.tape, hg.output.trans h4.output, Nat.le_trans h4.size hg.size, fun b hb => (hg.block b (by have := h4.size; omega) (fun e => by have := (hr b e.symm).1; omega)).trans (h4.block b hb)⟩, Nat.le_trans h5 hg.size, h6⟩
/-- One change more. -/
theorem inv_push {w W wa wb w7 : World} {B1 n g cap : Nat} {L : List Chg} {T : Nat → Prop} {Av A B : Option Addr} {cv c d : Nat} {t : Int} {old new : Row} {vals : List Value} (hB1 : w.heap.size ≤ B1) (hbox : Boxed W B1 48 (.slice Av n cv)) (hn : n = L.length)
    (hown : W.ownsRow w.heap.size 53 3 (.slice Av n cv) n vals) (hv : Dat.ValsAll W T (L.map encChg) vals) (hT : ∀ b, T b → w.heap.size ≤ b ∧ b ≠ B1 ∧ IsC W b) (hTo : ∀ b, T b → some b ≠ (Value.slice Av n cv).ownBlock) (hbel : Below w.heap.size w W)
    (hba : Below W.heap.size W wa) (howa : wa.ownsRow W.heap.size 51 3 (.slice A old.length c) old.length (rowVals old)) (ho1 : RowOk old) (hbb : Below wa.heap.size wa wb) (howb : wb.ownsRow wa.heap.size 51 3 (.slice B new.length d) new.length (rowVals new)) (ho2 : RowOk new) (o : Obj)
    (hg : (wb.alloc o).grownBy w7 (Value.slice Av n cv).ownBlock) (hat : (Value.slice Av n cv).ownBlock = some g ∨ g = wb.heap.size + 1) (hown7 : w7.ownsRow w.heap.size 53 3 (.slice (some ⟨g, 0, none⟩) (n + 1) cap) (n + 1) (vals ++ [.int .i64 t, .slice A old.length c, .slice B new.length d])) :
    ∃ T', Boxed (w7.setCell ⟨B1, 0, none⟩ (.slice (some ⟨g, 0, none⟩) (n + 1) cap)) B1 48 (.slice (some ⟨g, 0, none⟩) (n + 1) cap) ∧ OwnD (w7.setCell ⟨B1, 0, none⟩ (.slice (some ⟨g, 0, none⟩) (n + 1) cap)) w.heap.size 53 3 T' (.slice (some ⟨g, 0, none⟩) (n + 1) cap) ((L ++ [(⟨t, old, new⟩ : Chg)]).map encChg) ∧
      (∀ b, T' b → w.heap.size ≤ b ∧ b ≠ B1 ∧ IsC (w7.setCell ⟨B1, 0, none⟩ (.slice (some ⟨g, 0, none⟩) (n + 1) cap)) b) ∧ Below w.heap.size w (w7.setCell ⟨B1, 0, none⟩ (.slice (some ⟨g, 0, none⟩) (n + 1) cap)) ∧ (∀ b, b < W.heap.size → b ≠ B1 → some b ≠ (Value.slice Av n cv).ownBlock → (w7.setCell ⟨B1, 0, none⟩ (.slice (some ⟨g, 0, none⟩) (n + 1) cap)).heap[b]? = W.heap[b]?) ∧ W.heap.size ≤ w7.heap.size := by
  subst hn
  have hsa := hba.size
  have hsb := hbb.size
  have hsg := hg.size
  rw [World.size_alloc] at hsg
  have hlb := hbox.lt
  have hw := hbel.size
  have hobn : ∀ g', (Value.slice Av L.length cv).ownBlock = some g' → w.heap.size ≤ g' ∧ g' < W.heap.size := fun g' hg' => ⟨own_base hown hg', own_lt hown hg'⟩
  have hbo : some B1 ≠ (Value.slice Av L.length cv).ownBlock := hbox.not_row (by decide) hown
  -- from W to the world behind the append
  have hk : ∀ b, b < W.heap.size → some b ≠ (Value.slice Av L.length cv).ownBlock → w7.heap[b]? = W.heap[b]? := fun b h1 h2 => (hg.block b (by rw [World.size_alloc]; omega) h2).trans ((Below.heap_alloc wb o b (by omega)).trans ((hbb.block b (by omega)).trans (hba.block b h1)))
  have hbox7 : Boxed w7 B1 48 (.slice Av L.length cv) := (hk B1 hlb hbo).trans hbox
  have hset : ∀ b, b ≠ B1 → (w7.setCell ⟨B1, 0, none⟩ (.slice (some ⟨g, 0, none⟩) (L.length + 1) cap)).heap[b]? = w7.heap[b]? := fun b hb => Below.heap_setCell w7 ⟨B1, 0, none⟩ _ b hb
  have hgB : g ≠ B1 := fun e => by
    rcases hat with hat | hat
    · exact hbo (by rw [hat, e])
    · omega
  -- rows
  obtain ⟨hA1, hA2⟩ := own_row_set howa ho1
  obtain ⟨hD1, hD2⟩ := own_row_set howb ho2
  have kA : ∀ b, some b = (Value.slice A old.length c).ownBlock → W.heap.size ≤ b ∧ b < wa.heap.size ∧ IsC wa b := fun b e => ⟨own_base howa e.symm, own_lt howa e.symm, own_isC howa e.symm⟩
  have kB : ∀ b, some b = (Value.slice B new.length d).ownBlock → wa.heap.size ≤ b ∧ b < wb.heap.size ∧ IsC wb b := fun b e => ⟨own_base howb e.symm, own_lt howb e.symm, own_isC howb e.symm⟩
  have kA7 : ∀ b, some b = (Value.slice A old.length c).ownBlock → w7.heap[b]? = wa.heap[b]? := fun b e => (hg.block b (by rw [World.size_alloc]; have := (kA b e).2.1; omega) (fun e' => by have := (hobn b e'.symm).2; have := (kA b e).1; omega)).trans ((Below.heap_alloc wb o b (by have := (kA b e).2.1; omega)).trans (hbb.block b (kA b e).2.1))
  have kB7 : ∀ b, some b = (Value.slice B new.length d).ownBlock → w7.heap[b]? = wb.heap[b]? := fun b e => (hg.block b (by rw [World.size_alloc]; have := (kB b e).2.1; omega) (fun e' => by have := (hobn b e'.symm).2; have := (kB b e).1; omega)).trans (Below.heap_alloc wb o b (kB b e).2.1)
  have isC_of : ∀ {X Y : World} {b : Nat}, Y.heap[b]? = X.heap[b]? → IsC X b → IsC Y b := fun e h => by obtain ⟨cs, t, fr, h⟩ := h; exact ⟨cs, t, fr, e.trans h⟩
  refine ⟨fun b => T b ∨ some b = (Value.slice A old.length c).ownBlock ∨ some b = (Value.slice B new.length d).ownBlock, Boxed.set _ hbox7, ?_, ?_, ?_, ?_, by omega⟩
  · refine ⟨vals ++ [.int .i64 t, .slice A old.length c, .slice B new.length d], ?_, ?_, ?_⟩
    · rw [List.length_map, List.length_append]
      exact ownsRow_keep hown7 (fun g' e => hset g' (by have : g = g' := by simpa [Value.ownBlock] using e
                                                        omega))
    · rw [List.map_append]
      refine valsAll_append (Dat.ValsAll.more (fun b hb => .inl hb) _ _ (Dat.ValsAll.keep (fun b hb => (hset b (hT b hb).2.1).trans (hk b (hT b hb).2.2.lt (hTo b hb))) _ _ hv)) ?_
      simp only [List.map_cons, List.map_nil]
      refine valsAll_one (vals_chg (S := fun b => T b ∨ some b = (Value.slice A old.length c).ownBlock ∨ some b = (Value.slice B new.length d).ownBlock) ⟨hA1, (hA2.keep (fun b hb => (hset b (by have := (kA b hb).1; omega)).trans (kA7 b hb))).more (fun b hb => .inr (.inl hb))⟩ ⟨hD1, (hD2.keep (fun b hb => (hset b (by have := (kB b hb).1; omega)).trans (kB7 b hb))).more (fun b hb => .inr (.inr hb))⟩)
    · intro b hb
      have hlt : b < w7.heap.size := by
        rcases hb with hb | hb | hb
        · have := (hT b hb).2.2.lt; omega
        · have := (kA b hb).2.1; omega
        · have := (kB b hb).2.1; omega
      refine ⟨by simpa using hlt, fun e => ?_⟩
      have e' : b = g := by simpa [Value.ownBlock] using e
      subst e'
      rcases hat with hat | hat
      · rcases hb with hb | hb | hb
        · exact hTo b hb hat.symm
        · have := (hobn b hat).2; have := (kA b hb).1; omega
        · have := (hobn b hat).2; have := (kB b hb).1; omega
      · rcases hb with hb | hb | hb
        · have := (hT b hb).2.2.lt; omega
        · have := (kA b hb).2.1; omega
        · have := (kB b hb).2.1; omega
  · intro b hb
    rcases hb with hb | hb | hb
    · exact ⟨(hT b hb).1, (hT b hb).2.1, isC_of ((hset b (hT b hb).2.1).trans (hk b (hT b hb).2.2.lt (hTo b hb))) (hT b hb).2.2⟩
    · have h1 := kA b hb
      exact ⟨by omega, by omega, isC_of ((hset b (by omega)).trans (kA7 b hb)) h1.2.2⟩
    · have h1 := kB b hb
      exact ⟨by omega, by omega, isC_of ((hset b (by omega)).trans (kB7 b hb)) h1.2.2⟩
  · refine ⟨hg.os.trans (hbb.os.trans (hba.os.trans hbel.os)), hg.tape.trans (hbb.tape.trans (hba.tape.trans hbel.tape)), hg.output.trans (hbb.output.trans (hba.output.trans hbel.output)), by simp; omega, fun b hb => (hset b (by omega)).trans ((hk b (by omega) (fun e => by have := (hobn b e.symm).1; omega)).trans (hbel.block b hb))⟩
  · exact fun b h1 h2 h3 => (hset b h2).trans (hk b h1 h3)
end Go.Proofs.Ytkpjjfhfbpfjpaa
