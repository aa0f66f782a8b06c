/- Words for logs that a call makes: rows of its own, apart from each other. -/
import Derived.Test.YtjpknhhdkjhjfaaOwn
namespace Go.Proofs.Ytjpknhhdkjhjfaa
open Go.RowKit
set_option linter.unusedVariables false

def StampCells (W : World) (B : Nat) (xs : List Value) (k : Nat) (s : Stp) : Prop :=
  xs[k * 2]? = some (.int .i64 s.1) ∧ ∃ g c, xs[k * 2 + 1]? = some (.slice (some ⟨g, 0, none⟩) s.2.length c) ∧ B ≤ g ∧ Own W g s.2 ∧ s.2.length ≤ 17592186044416

structure LogsMem (B H : Nat) (W : World) (L : List (List Stp)) (vs : List Value) : Prop where
  hb : B ≤ H
  hd : W.heap[H]? = some (.cells vs.toArray 31 (0, 0))
  lv : vs.length = L.length
  row : ∀ i, i < L.length → ∃ xs : List Value, W.ownsRow B 36 2 (vs.getD i undef) (L.getD i []).length xs ∧ ∀ k, k < (L.getD i []).length → StampCells W B xs k (stp L i k)
  apart : ∀ i j, i < L.length → j < L.length → i ≠ j → ∀ g, (vs.getD i undef).ownBlock = some g → (vs.getD j undef).ownBlock ≠ some g

theorem lt_of_heap {W : World} {g : Nat} {o : Obj} (h : W.heap[g]? = some o) : g < W.heap.size := by
  rcases Nat.lt_or_ge g W.heap.size with hlt | hge
  · exact hlt
  · rw [Array.getElem?_eq_none hge] at h; cases h
theorem ne_of_type {W : World} {g g' : Nat} {c c' : Array Value} {t t' : TypeId} {f f' : Nat × Nat} (h : W.heap[g]? = some (.cells c t f)) (h' : W.heap[g']? = some (.cells c' t' f')) (hne : t ≠ t') : g ≠ g' := by
  rintro rfl
  rw [h] at h'
  injection h' with h'
  injection h' with _ ht _
  exact hne ht
theorem ownsRow_same {w w' : World} {base : Nat} {e : TypeId} {size : Nat} {v : Value} {n : Nat} {xs : List Value} (h : w.ownsRow base e size v n xs) (hs : ∀ g, v.ownBlock = some g → w'.heap[g]? = w.heap[g]?) : w'.ownsRow base e size v n xs := by
  refine ⟨h.1, ?_⟩
  rcases h.2 with h0 | ⟨g, cap, cur, rfl, hb, hh, h1, h2, h3, h4⟩
  · exact .inl h0
  · exact .inr ⟨g, cap, cur, rfl, hb, (hs g rfl).trans hh, h1, h2, h3, h4⟩
theorem owns_block {w : World} {base : Nat} {e : TypeId} {size : Nat} {v : Value} {n : Nat} {xs : List Value} (h : w.ownsRow base e size v n xs) {g : Nat} (hg : v.ownBlock = some g) : base ≤ g ∧ ∃ cur, w.heap[g]? = some (.cells cur e (0, 0)) := by
  rcases h.2 with ⟨rfl, _⟩ | ⟨g', cap, cur, rfl, hb, hh, _⟩
  · simp [Value.ownBlock] at hg
  · have : g' = g := by simpa [Value.ownBlock] using hg
    subst this
    exact ⟨hb, cur, hh⟩

section
variable {B H : Nat} {W W' : World} {L : List (List Stp)} {vs : List Value}
theorem LogsMem.keep (h : LogsMem B H W L vs) (hs : ∀ b, B ≤ b → b < W.heap.size → W'.heap[b]? = W.heap[b]?) : LogsMem B H W' L vs := by
  refine ⟨h.hb, (hs H h.hb (lt_of_heap h.hd)).trans h.hd, h.lv, fun i hi => ?_, h.apart⟩
  obtain ⟨xs, ho, hc⟩ := h.row i hi
  refine ⟨xs, ownsRow_same ho (fun g hg => ?_), fun k hk => ?_⟩
  · obtain ⟨hb, cur, hh⟩ := owns_block ho hg
    exact hs g hb (lt_of_heap hh)
  · obtain ⟨h1, g, c, h2, h3, h4, h5⟩ := hc k hk
    exact ⟨h1, g, c, h2, h3, h4.keep (hs g h3 h4.lt), h5⟩
theorem LogsMem.cell (h : LogsMem B H W L vs) {i : Nat} (hi : i < L.length) : W.cell? ⟨H, i, none⟩ = some (vs.getD i undef) := by
  have hiv : i < vs.length := by rw [h.lv]; exact hi
  simp only [World.cell?, h.hd]
  simp [hiv]
theorem LogsMem.frozen (h : LogsMem B H W L vs) (i : Nat) : W.frozen? ⟨H, i, none⟩ = false := by simp [World.frozen?, h.hd]
theorem LogsMem.val (h : LogsMem B H W L vs) {i : Nat} (hi : i < L.length) : ∃ A c, vs.getD i undef = .slice A (L.getD i []).length c ∧ (A = none ∨ ∃ g, A = some ⟨g, 0, none⟩ ∧ B ≤ g) ∧ (L.getD i []).length ≤ c := by
  obtain ⟨xs, ho, _⟩ := h.row i hi
  rcases ho.2 with ⟨e, hn⟩ | ⟨g, cap, cur, e, hb, _, hnc, _⟩
  · exact ⟨none, 0, by rw [e, hn], .inl rfl, by omega⟩
  · exact ⟨_, _, e, .inr ⟨g, rfl, hb⟩, hnc⟩
theorem LogsMem.logs (h : LogsMem B H W L vs) (hl : L.length ≤ 17592186044416) (hll : ∀ i, i < L.length → (L.getD i []).length ≤ 17592186044416) : Logs W (fun b => B ≤ b ∧ b < W.heap.size) (some ⟨H, 0, none⟩) L := by
  refine ⟨hl, fun _ => ⟨H, 0, rfl, ⟨h.hb, lt_of_heap h.hd⟩, fun k hk => ?_⟩⟩
  obtain ⟨A, c, hv, _⟩ := h.val hk
  refine ⟨A, c, by rw [Nat.zero_add, h.cell hk, hv], hll k hk, fun hpos => ?_⟩
  obtain ⟨xs, ho, hc⟩ := h.row k hk
  rw [hv] at ho
  rcases ho.2 with ⟨_, hn⟩ | ⟨g, cap, cur, e, hb, hh, hnc, _, hcs, ht⟩
  · omega
  · injection e with e1 e2 e3
    subst e1
    refine ⟨g, 0, rfl, ⟨hb, lt_of_heap hh⟩, fun j hj => ?_⟩
    obtain ⟨h1, g2, c2, h2, h3, h4, h5⟩ := hc j hj
    have rd : ∀ (q : Nat) (u : Value), xs[q]? = some u → W.cell? ⟨g, q, none⟩ = some u := fun q u hu => by
      have hq : q < (L.getD k []).length * 2 := by
        have := (List.getElem?_eq_some_iff.1 hu).1
        rw [ho.1] at this
        exact this
      rw [← ht, List.getElem?_take_of_lt hq] at hu
      simp only [World.cell?, hh]
      simpa using hu
    rw [Nat.zero_add]
    exact ⟨rd _ _ h1, _, _, rd _ _ h2, h4.ints.more (fun b e => by subst e; exact ⟨h3, h4.lt⟩), h5⟩

theorem getD_setV (l : List Value) (k i : Nat) (x : Value) (hk : k < l.length) : (l.set k x).getD i undef = if i = k then x else l.getD i undef := by
  simp only [List.getD, List.getElem?_set]
  by_cases h : k = i
  · subst h; simp [hk]
  · have : ¬ i = k := fun e => h e.symm
    simp [h, this]
theorem getD_setL (l : List (List Stp)) (k i : Nat) (x : List Stp) (hk : k < l.length) : (l.set k x).getD i [] = if i = k then x else l.getD i [] := by
  simp only [List.getD, List.getElem?_set]
  by_cases h : k = i
  · subst h; simp [hk]
  · have : ¬ i = k := fun e => h e.symm
    simp [h, this]

/-- One of the lists is replaced: its row anew, its header's cell stored. -/
theorem LogsMem.put (h : LogsMem B H W L vs) {i : Nat} (hi : i < L.length) (hs : ∀ b, b < W.heap.size → some b ≠ (vs.getD i undef).ownBlock → W'.heap[b]? = W.heap[b]?) {v' : Value} {l' : List Stp} {xs' : List Value}
    (hrow : W'.ownsRow B 36 2 v' l'.length xs') (hst : ∀ k, k < l'.length → StampCells W' B xs' k (l'.getD k (0, []))) (hv : v'.ownBlock = none ∨ v'.ownBlock = (vs.getD i undef).ownBlock ∨ ∃ g, v'.ownBlock = some g ∧ W.heap.size ≤ g) :
    LogsMem B H (W'.setCell ⟨H, i, none⟩ v') (L.set i l') (vs.set i v') := by
  have hiv : i < vs.length := by rw [h.lv]; exact hi
  have hH := lt_of_heap h.hd
  have hHi : some H ≠ (vs.getD i undef).ownBlock := fun e => by
    obtain ⟨xs, ho, _⟩ := h.row i hi
    obtain ⟨_, cur, hh⟩ := owns_block ho e.symm
    exact ne_of_type hh h.hd (by decide) rfl
  have hd' : W'.heap[H]? = some (.cells vs.toArray 31 (0, 0)) := (hs H hH hHi).trans h.hd
  have hset : ∀ b, b ≠ H → (W'.setCell ⟨H, i, none⟩ v').heap[b]? = W'.heap[b]? := fun b hb => Below.heap_setCell _ ⟨H, i, none⟩ _ b hb
  have own3 : ∀ g l, B ≤ g → Own W' g l → Own (W'.setCell ⟨H, i, none⟩ v') g l := fun g l _ ho => by
    obtain ⟨cur, hh, _⟩ := ho
    exact Own.keep ⟨cur, hh, ‹_›⟩ (hset g (ne_of_type hh hd' (by decide)))
  refine ⟨h.hb, ?_, by simpa using h.lv, fun j hj => ?_, fun a b ha hb hne g hg => ?_⟩
  · simp only [World.setCell, Array.getElem?_modify, hd', if_true, Option.map_some]
    simp
  · rw [List.length_set] at hj
    rw [getD_setV _ _ _ _ hiv]
    unfold stp
    rw [getD_setL _ _ _ _ hi]
    by_cases e : j = i
    · rw [if_pos e, if_pos e]
      refine ⟨xs', ownsRow_same hrow (fun g hg => ?_), fun k hk => ?_⟩
      · obtain ⟨_, cur, hh⟩ := owns_block hrow hg
        exact hset g (ne_of_type hh hd' (by decide))
      · obtain ⟨h1, g, c, h2, h3, h4, h5⟩ := hst k hk
        exact ⟨h1, g, c, h2, h3, own3 g _ h3 h4, h5⟩
    · rw [if_neg e, if_neg e]
      obtain ⟨xs, ho, hc⟩ := h.row j hj
      have hrowj : W'.ownsRow B 36 2 (vs.getD j undef) (L.getD j []).length xs := ownsRow_same ho (fun g hg => by
        obtain ⟨_, cur, hh⟩ := owns_block ho hg
        exact hs g (lt_of_heap hh) (fun e' => h.apart i j hi hj (fun x => e x.symm) g e'.symm hg))
      refine ⟨xs, ownsRow_same hrowj (fun g hg => ?_), fun k hk => ?_⟩
      · obtain ⟨_, cur, hh⟩ := owns_block hrowj hg
        exact hset g (ne_of_type hh hd' (by decide))
      · obtain ⟨h1, g, c, h2, h3, h4, h5⟩ := hc k hk
        refine ⟨h1, g, c, h2, h3, own3 g _ h3 (h4.keep (hs g h4.lt (fun e' => ?_))), h5⟩
        obtain ⟨xsi, hoi, _⟩ := h.row i hi
        obtain ⟨_, curi, hhi⟩ := owns_block hoi e'.symm
        obtain ⟨cur3, hh3, _⟩ := h4
        exact ne_of_type hh3 hhi (by decide) rfl
  · rw [List.length_set] at ha hb
    rw [getD_setV _ _ _ _ hiv] at hg ⊢
    have old : ∀ j, j < L.length → j ≠ i → ∀ g, (vs.getD j undef).ownBlock = some g → v'.ownBlock ≠ some g := fun j hj hji g hgj hvg => by
      rcases hv with hv | hv | ⟨g2, hv, hge⟩
      · rw [hv] at hvg; cases hvg
      · rw [hv] at hvg; exact h.apart i j hi hj (fun x => hji x.symm) g hvg hgj
      · rw [hv] at hvg
        injection hvg with hvg
        subst hvg
        obtain ⟨xs, ho, _⟩ := h.row j hj
        obtain ⟨_, cur, hh⟩ := owns_block ho hgj
        have := lt_of_heap hh
        omega
    by_cases ea : a = i
    · rw [if_pos ea] at hg
      rw [if_neg (fun e => hne (ea.trans e.symm))]
      intro hgb
      exact old b hb (fun e => hne (ea.trans e.symm)) g hgb hg
    · rw [if_neg ea] at hg
      by_cases eb : b = i
      · rw [if_pos eb]; exact old a ha ea g hg
      · rw [if_neg eb]; exact h.apart a b ha hb hne g hg
end
end Go.Proofs.Ytjpknhhdkjhjfaa
