/- Words for memory: a state that the call is making: its lists in the cells of one block. -/
import Derived.Test.YtkpjjfhfbpfjpaaApp
import Derived.Test.YtkpjjfhfbpfjpaaUntil
namespace Go.Proofs.Ytkpjjfhfbpfjpaa
open Go.RowKit
set_option linter.unusedVariables false

theorem infoRs : (Try.prog.info? 49).map (fun i => (i.zero, i.size, i.bytes)) = some (some (.slice none 0 0), 1, 24) := by kernel_rfl
def nilCells (n : Nat) : List Value := List.replicate n (Value.slice none 0 0)
set_option maxRecDepth 100000 in
theorem run_make_rows (n : Nat) (hn : n ≤ 5864062014805) (w : World) :
    (Instr.makeSlice 54 (.int .i64 (n : Int)) (.int .i64 (n : Int))).run Try.prog w = .ok (.slice (some ⟨w.heap.size, 0, none⟩) n n) (w.alloc (.cells (nilCells n).toArray 49)) := by
  obtain ⟨i0, hi, hz0, hz1, hz2⟩ := info_parts infoRs
  have hr := run_make (P := Try.prog) w 54 49 i0 _ Try.underlying54 hi hz0 .i64 .i64 n n (by omega) (by omega) (by rw [hz2]; omega) (by omega)
  rw [hr, hz1]
  simp only [Int.toNat_natCast]
  congr 3
  apply Array.ext
  · simp [size_madeCells, nilCells]
  · intro i h1 h2
    simp [madeCells, nilCells, Value.cells, Nat.mod_one]

/-- The lists of a state in the cells of block gt. -/
def StB (w : World) (S : Nat → Prop) (gt : Nat) (st : St) : Prop :=
  ∃ vs : List Value, w.heap[gt]? = some (.cells vs.toArray 49 (0, 0)) ∧ Dat.ValsAll w S (st.map encRows) vs ∧ ∀ b, S b → b < w.heap.size ∧ b ≠ gt
section
variable {w w' : World} {S S' : Nat → Prop} {gt : Nat} {st : St}
theorem valsAll_len {l : St} {vs : List Value} (h : Dat.ValsAll w S (l.map encRows) vs) : vs.length = l.length := by
  rw [Dat.ValsAll.len _ _ h, sizes_map (n := 1) (fun _ => rfl)]; omega
theorem StB.keep (h : StB w S gt st) (hs : w.heap.size ≤ w'.heap.size) (hk : Same S w w') (hg : w'.heap[gt]? = w.heap[gt]?) : StB w' S gt st := by
  obtain ⟨vs, h1, h2, h3⟩ := h
  exact ⟨vs, hg.trans h1, Dat.ValsAll.keep hk _ _ h2, fun b hb => ⟨Nat.lt_of_lt_of_le (h3 b hb).1 hs, (h3 b hb).2⟩⟩
theorem StB.lt (h : StB w S gt st) : gt < w.heap.size := by
  obtain ⟨vs, h1, _⟩ := h
  exact lt_of_heap h1
theorem StB.below (h : StB w S gt st) (hb : Below w.heap.size w w') : StB w' S gt st := by
  have h' := h
  obtain ⟨vs, h1, h2, h3⟩ := h'
  exact h.keep hb.size (fun b hb' => hb.block b (h3 b hb').1) (hb.block gt h.lt)
theorem StB.more (h : StB w S gt st) (hS : ∀ b, S b → S' b) (hS' : ∀ b, S' b → b < w.heap.size ∧ b ≠ gt) : StB w S' gt st := by
  obtain ⟨vs, h1, h2, h3⟩ := h
  exact ⟨vs, h1, Dat.ValsAll.more hS _ _ h2, hS'⟩
/-- One of the lists. -/
theorem vals_at : ∀ {l : St} {vs : List Value} {k : Nat}, Dat.ValsAll w S (l.map encRows) vs → k < l.length → ∃ A c, vs[k]? = some (.slice A (l.getD k []).length c) ∧ (l.getD k []).length ≤ c ∧ RowsS w S A (l.getD k [])
  | [], _, k, _, hk => by simp at hk
  | a :: l, vs, k, h, hk => by
    rw [List.map_cons] at h
    unfold Dat.ValsAll at h
    obtain ⟨x, y, e, h1, h2⟩ := h
    unfold encRows Dat.Vals at h1
    obtain ⟨A, c, e1, h3, h4⟩ := h1
    rw [List.length_map] at e1 h3
    subst e1
    subst e
    cases k with
    | zero => exact ⟨A, c, rfl, h3, h4⟩
    | succ k =>
      obtain ⟨A', c', h5, h6⟩ := vals_at (k := k) h2 (by simpa using hk)
      exact ⟨A', c', by simpa using h5, h6⟩
theorem vals_set : ∀ {l : St} {vs : List Value} {k : Nat} {A : Option Addr} {c : Nat} {r : List Row}, Dat.ValsAll w S (l.map encRows) vs → r.length ≤ c → RowsS w S A r → Dat.ValsAll w S ((l.set k r).map encRows) (vs.set k (.slice A r.length c))
  | [], vs, k, A, c, r, h, _, _ => by
    simp only [List.map_nil] at h
    unfold Dat.ValsAll at h
    subst h
    simp only [List.set_nil, List.map_nil]
    unfold Dat.ValsAll
    rfl
  | a :: l, vs, k, A, c, r, h, h3, h4 => by
    rw [List.map_cons] at h
    unfold Dat.ValsAll at h
    obtain ⟨x, y, e, h1, h2⟩ := h
    have h1' := h1
    unfold encRows Dat.Vals at h1
    obtain ⟨A', c', e1, _⟩ := h1
    rw [List.length_map] at e1
    subst e1
    subst e
    cases k with
    | zero =>
      simp only [List.set_cons_zero, List.map_cons, List.singleton_append]
      unfold Dat.ValsAll
      refine ⟨[.slice A r.length c], y, rfl, ?_, h2⟩
      unfold encRows Dat.Vals
      exact ⟨A, c, by simp, by simpa using h3, h4⟩
    | succ k =>
      simp only [List.set_cons_succ, List.map_cons, List.singleton_append]
      unfold Dat.ValsAll
      exact ⟨[.slice A' a.length c'], y.set k (.slice A r.length c), rfl, h1', vals_set h2 h3 h4⟩
theorem StB.at_ (h : StB w S gt st) {k : Nat} (hk : k < st.length) : w.frozen? ⟨gt, k, none⟩ = false ∧ ∃ A c, w.cell? ⟨gt, k, none⟩ = some (.slice A (st.getD k []).length c) ∧ (st.getD k []).length ≤ c ∧ RowsS w S A (st.getD k []) := by
  obtain ⟨vs, h1, h2, h3⟩ := h
  obtain ⟨A, c, h4, h5⟩ := vals_at h2 hk
  refine ⟨by simp [World.frozen?, h1], A, c, ?_, h5⟩
  simp only [World.cell?, h1]
  simpa using h4
theorem StB.slice (h : StB w S gt st) (hl : st.length ≤ 5864062014805) (hS : ∀ b, S b → S' b) (hg : S' gt) : StS w S' (some ⟨gt, 0, none⟩) st := by
  obtain ⟨vs, h1, h2, h3⟩ := h
  refine Sl.of_vals (by rw [bytesAll_map (n := 24) (fun _ => rfl)]; omega) (Dat.ValsAll.more hS _ _ h2) (fun h0 => ⟨gt, 0, rfl, hg, fun j u hu => ?_⟩)
  simp only [World.cell?, h1, Nat.zero_add]
  simpa using hu
theorem setCell_block {w : World} {g k : Nat} {vs : List Value} {t : TypeId} {v : Value} (h : w.heap[g]? = some (.cells vs.toArray t (0, 0))) : (w.setCell ⟨g, k, none⟩ v).heap[g]? = some (.cells (vs.set k v).toArray t (0, 0)) := by
  simp [World.setCell, Array.getElem?_modify, h]
/-- A list is put in the place of another. -/
theorem StB.put (h : StB w S gt st) {k : Nat} {A : Option Addr} {c : Nat} {r : List Row} (hc : r.length ≤ c) (hr : RowsS w S A r) : StB (w.setCell ⟨gt, k, none⟩ (.slice A r.length c)) S gt (st.set k r) := by
  obtain ⟨vs, h1, h2, h3⟩ := h
  have hk : Same S w (w.setCell ⟨gt, k, none⟩ (.slice A r.length c)) := fun b hb => Below.heap_setCell w ⟨gt, k, none⟩ _ b (h3 b hb).2
  refine ⟨_, setCell_block h1, Dat.ValsAll.keep hk _ _ (vals_set h2 hc hr), fun b hb => ⟨by simpa using (h3 b hb).1, (h3 b hb).2⟩⟩
end
/-- The blocks from base on, but v's own. -/
abbrev Beh (base : Nat) (w : World) (v : Value) : Nat → Prop := fun b => base ≤ b ∧ b < w.heap.size ∧ some b ≠ v.ownBlock
/-- The first k lists have been made, the others are nil. -/
def CopyO (w : World) (base gt n k : Nat) (st : St) : Prop :=
  ∃ vs : List Value, vs.length = k ∧ w.heap[gt]? = some (.cells (vs ++ nilCells (n - k)).toArray 49 (0, 0)) ∧ Dat.ValsAll w (fun b => base ≤ b ∧ b < w.heap.size) ((st.take k).map encRows) vs
/-- A list of the state is being made: its slice v in cell k of block gt. -/
structure CopyI (w : World) (base gt n k : Nat) (st : St) (v : Value) (l : List Row) : Prop where
  blk : ∃ vs : List Value, vs.length = k ∧ w.heap[gt]? = some (.cells (vs ++ v :: nilCells (n - (k + 1))).toArray 49 (0, 0)) ∧ Dat.ValsAll w (Beh base w v) ((st.take k).map encRows) vs
  own : OwnD w base 27 1 (Beh base w v) v (l.map encRow)
section
variable {w w' : World} {base gt n k : Nat} {st : St} {v v' : Value} {l : List Row}
theorem CopyO.zero (h : w.heap[gt]? = some (.cells (nilCells n).toArray 49 (0, 0))) : CopyO w base gt n 0 st :=
  ⟨[], rfl, by simpa using h, by simp only [List.take_zero, List.map_nil]; unfold Dat.ValsAll; rfl⟩
theorem CopyO.inner (h : CopyO w base gt n k st) (hk : k < n) : CopyI w base gt n k st (.slice none 0 0) [] := by
  obtain ⟨vs, h1, h2, h3⟩ := h
  refine ⟨⟨vs, h1, ?_, Dat.ValsAll.more (fun b hb => ⟨hb.1, hb.2, by simp [Value.ownBlock]⟩) _ _ h3⟩, OwnD.nil_ (fun b hb => hb.2.1)⟩
  rw [show n - k = n - (k + 1) + 1 by omega] at h2
  exact h2
theorem CopyI.cell (h : CopyI w base gt n k st v l) : w.cell? ⟨gt, k, none⟩ = some v ∧ w.frozen? ⟨gt, k, none⟩ = false := by
  obtain ⟨vs, h1, h2, _⟩ := h.blk
  refine ⟨?_, by simp [World.frozen?, h2]⟩
  simp only [World.cell?, h2]
  simp [← h1]
theorem CopyI.lt (h : CopyI w base gt n k st v l) : gt < w.heap.size := by
  obtain ⟨vs, h1, h2, _⟩ := h.blk
  exact lt_of_heap h2
theorem CopyI.form (h : CopyI w base gt n k st v l) : ∃ A c, v = .slice A l.length c := by
  obtain ⟨vals, h1, _⟩ := h.own
  rw [List.length_map] at h1
  exact owns_slice h1
theorem CopyI.below (h : CopyI w base gt n k st v l) (hb : Below w.heap.size w w') : CopyI w' base gt n k st v l := by
  obtain ⟨vs, h1, h2, h3⟩ := h.blk
  have hT : ∀ b, Beh base w v b → Beh base w' v b := fun b hb' => ⟨hb'.1, Nat.lt_of_lt_of_le hb'.2.1 hb.size, hb'.2.2⟩
  have hk : Same (Beh base w v) w w' := fun b hb' => hb.block b hb'.2.1
  exact ⟨⟨vs, h1, (hb.block gt (lt_of_heap h2)).trans h2, Dat.ValsAll.more hT _ _ (Dat.ValsAll.keep hk _ _ h3)⟩, (h.own.below hb).more hT (fun b hb' => ⟨hb'.2.1, hb'.2.2⟩)⟩
/-- One row more. -/
theorem CopyI.push (h : CopyI w base gt n k st v l) (hgb : gt < base) (hbw : base ≤ w.heap.size) {r : Row} {A : Option Addr} {c : Nat} {wa wb : World} (hb : Below w.heap.size w wa) (hr : r.length ≤ c ∧ RowS wa (fun b => w.heap.size ≤ b ∧ b < wa.heap.size) A r) {vals : List Value} {g cap m : Nat}
    (hva : Dat.ValsAll w (Beh base w v) (l.map encRow) vals) (hgr : wa.grownBy wb v.ownBlock) (hm : m = l.length + 1) (hown : wb.ownsRow base 27 1 (.slice (some ⟨g, 0, none⟩) m cap) m (vals ++ [.slice A r.length c])) (hat : v.ownBlock = some g ∨ wa.heap.size ≤ g) (hvl : ∀ g', v.ownBlock = some g' → base ≤ g' ∧ g' < w.heap.size) :
    CopyI (wb.setCell ⟨gt, k, none⟩ (.slice (some ⟨g, 0, none⟩) m cap)) base gt n k st (.slice (some ⟨g, 0, none⟩) m cap) (l ++ [r]) := by
  subst hm
  have hn1 : ∀ b, b < w.heap.size → some b ≠ v.ownBlock → some b ≠ (Value.slice (some ⟨g, 0, none⟩) (l.length + 1) cap).ownBlock := fun b hb1 hb2 e => by
    have e' : b = g := by simpa [Value.ownBlock] using e
    rcases hat with hat | hat
    · exact hb2 (by rw [hat, e'])
    · have := hb.size; omega
  have hgl : g < wb.heap.size := own_lt hown rfl
  have hbs := hb.size
  have hgs := hgr.size
  obtain ⟨vs, h1, h2, h3⟩ := h.blk
  have hglt := lt_of_heap h2
  have hgtv : some gt ≠ v.ownBlock := fun e => by have := (hvl gt e.symm).1; omega
  -- the world behind
  have hsz : (wb.setCell ⟨gt, k, none⟩ (.slice (some ⟨g, 0, none⟩) (l.length + 1) cap)).heap.size = wb.heap.size := by simp
  have hset : ∀ b, b ≠ gt → (wb.setCell ⟨gt, k, none⟩ (.slice (some ⟨g, 0, none⟩) (l.length + 1) cap)).heap[b]? = wb.heap[b]? := fun b hb' => Below.heap_setCell wb ⟨gt, k, none⟩ _ b hb'
  have hT : ∀ b, Beh base w v b → Beh base (wb.setCell ⟨gt, k, none⟩ (.slice (some ⟨g, 0, none⟩) (l.length + 1) cap)) (.slice (some ⟨g, 0, none⟩) (l.length + 1) cap) b := fun b hb' => ⟨hb'.1, by rw [hsz]; have := hb'.2.1; omega, hn1 b hb'.2.1 hb'.2.2⟩
  have hbel : Same (Beh base w v) w (wb.setCell ⟨gt, k, none⟩ (.slice (some ⟨g, 0, none⟩) (l.length + 1) cap)) := fun b hb' => (hset b (by have := hb'.1; omega)).trans ((hgr.block b (by have := hb'.2.1; omega) hb'.2.2).trans (hb.block b hb'.2.1))
  refine ⟨⟨vs, h1, ?_, Dat.ValsAll.more hT _ _ (Dat.ValsAll.keep hbel _ _ h3)⟩, ?_⟩
  · have h4 : wb.heap[gt]? = some (.cells (vs ++ v :: nilCells (n - (k + 1))).toArray 49 (0, 0)) := (hgr.block gt (by omega) hgtv).trans ((hb.block gt hglt).trans h2)
    rw [setCell_block h4]
    rw [← h1, List.set_append_right _ _ (Nat.le_refl _)]
    simp
  · refine ⟨vals ++ [.slice A r.length c], ?_, ?_, fun b hb' => ⟨hb'.2.1, hb'.2.2⟩⟩
    · rw [List.map_append, List.length_append, List.length_map]
      simp only [List.map_cons, List.map_nil, List.length_cons, List.length_nil, Nat.zero_add]
      exact ownsRow_keep hown (fun g' hg' => hset g' (by have e' : g = g' := by simpa [Value.ownBlock] using hg'
                                                         have : base ≤ g := own_base hown rfl
                                                         omega))
    · rw [List.map_append]
      refine valsAll_append (Dat.ValsAll.more hT _ _ (Dat.ValsAll.keep hbel _ _ hva)) ?_
      simp only [List.map_cons, List.map_nil]
      refine valsAll_one (vals_row hr.1 ?_)
      have hk2 : Same (fun b => w.heap.size ≤ b ∧ b < wa.heap.size) wa (wb.setCell ⟨gt, k, none⟩ (.slice (some ⟨g, 0, none⟩) (l.length + 1) cap)) := fun b hb' => (hset b (by omega)).trans (hgr.block b hb'.2 (fun e => by have := (hvl b e.symm).2; omega))
      refine (hr.2.keep hk2).more (fun b hb' => ⟨Nat.le_trans hbw hb'.1, by rw [hsz]; exact Nat.lt_of_lt_of_le hb'.2 hgs, fun e => ?_⟩)
      have e' : b = g := by simpa [Value.ownBlock] using e
      rcases hat with hat | hat
      · have := (hvl g hat).2; have := hb'.1; omega
      · have := hb'.2; omega
theorem CopyI.outer (h : CopyI w base gt n k st v (st.getD k [])) (hk : k < n) (hkl : k < st.length) (hl : (st.getD k []).length ≤ 5864062014805) : CopyO w base gt n (k + 1) st := by
  obtain ⟨vs, h1, h2, h3⟩ := h.blk
  obtain ⟨A, c, rfl⟩ := h.form
  have h4 := h.own.slice (S' := fun b => base ≤ b ∧ b < w.heap.size) (by rw [bytesAll_map (n := 24) (fun _ => rfl)]; omega) (fun b hb => ⟨hb.1, hb.2.1⟩) (fun g hg hg' _ => ⟨hg, hg'⟩)
  refine ⟨vs ++ [.slice A (st.getD k []).length c], by simp [h1], by rw [List.append_assoc]; exact h2, ?_⟩
  have e : st.take (k + 1) = st.take k ++ [st.getD k []] := by rw [List.take_succ_eq_append_getElem hkl]; simp [List.getD, hkl]
  rw [e, List.map_append]
  refine valsAll_append (Dat.ValsAll.more (fun b hb => ⟨hb.1, hb.2.1⟩) _ _ h3) ?_
  simp only [List.map_cons, List.map_nil]
  refine valsAll_one ?_
  unfold encRows Dat.Vals
  exact ⟨A, c, by simp, by simpa using h4.2.1, h4.2.2⟩
theorem CopyO.done (h : CopyO w base gt n n st) (hn : st.length = n) (hg : gt < base) : StB w (fun b => base ≤ b ∧ b < w.heap.size) gt st := by
  obtain ⟨vs, h1, h2, h3⟩ := h
  rw [List.take_of_length_le (by omega)] at h3
  refine ⟨vs, by simpa [nilCells] using h2, h3, fun b hb => ⟨hb.2, by omega⟩⟩
/-- What Apply's own blocks hold: w before the call, H the block of the lists. -/
structure ApW (w : World) (H : Nat) (s : Sch) (A0 : Option Addr) (c0' n : Nat) (wr : World) : Prop where
  bel : Below w.heap.size w wr
  v0 : wr.cell? ⟨w.heap.size, 0, none⟩ = some (.int .i64 s.version)
  v1 : wr.cell? ⟨w.heap.size, 1, none⟩ = some (.slice A0 s.tabs.length c0')
  r0 : wr.cell? ⟨w.heap.size + 1 + 1, 0, none⟩ = some (.slice none 0 0)
  r1 : wr.frozen? ⟨w.heap.size + 1 + 1, 0, none⟩ = false
  a0 : wr.cell? ⟨H + 1, 0, none⟩ = some (.slice (some ⟨H, 0, none⟩) n n)
  lt : w.heap.size + 1 + 1 < H
  sz : H + 2 ≤ wr.heap.size
theorem ApW.keep {w wr wr' : World} {H : Nat} {s : Sch} {A0 : Option Addr} {c0' n : Nat} (h : ApW w H s A0 c0' n wr) (hf : Fr (fun b => b = H ∨ H + 2 ≤ b) wr wr') : ApW w H s A0 c0' n wr' := by
  have h1 := h.lt
  have h2 := h.sz
  refine ⟨⟨hf.os.trans h.bel.os, hf.tape.trans h.bel.tape, hf.output.trans h.bel.output, Nat.le_trans h.bel.size hf.size, fun b hb => (hf.block b (by omega) (by omega)).trans (h.bel.block b hb)⟩, ?_, ?_, ?_, ?_, ?_, h1, Nat.le_trans h2 hf.size⟩
  · exact (hf.cell (by omega) (by omega)).trans h.v0
  · exact (hf.cell (by omega) (by omega)).trans h.v1
  · exact (hf.cell (by omega) (by omega)).trans h.r0
  · exact (World.frozen?_of_block (w := wr) (a := ⟨w.heap.size + 1 + 1, 0, none⟩) (hf.block (w.heap.size + 1 + 1) (by omega) (by omega))).trans h.r1
  · exact (hf.cell (by omega) (by omega)).trans h.a0
theorem ApW.below {w wr wr' : World} {H : Nat} {s : Sch} {A0 : Option Addr} {c0' n : Nat} (h : ApW w H s A0 c0' n wr) (hb : Below wr.heap.size wr wr') : ApW w H s A0 c0' n wr' := h.keep (Fr.of_below hb)
end
end Go.Proofs.Ytkpjjfhfbpfjpaa
