/- Words for CutChecks: logs of one's own with one thing changed. -/
import Derived.Test.YtjpknhhdkjhjfaaPush
namespace Go.Proofs.Ytjpknhhdkjhjfaa
open Go.RowKit
set_option linter.unusedVariables false

theorem StampCells.world {W W' : World} {B : Nat} {xs : List Value} {k : Nat} {s : Stp} (h : StampCells W B xs k s) (hk : ∀ g l, B ≤ g → Own W g l → Own W' g l) : StampCells W' B xs k s := stampCells_keep h (fun _ _ h => h) hk

section
variable {B H : Nat} {W W' : World} {L : List (List Stp)} {vs : List Value}
/-- A cell of one of the lists is stored. -/
theorem LogsMem.cellSet (h : LogsMem B H W L vs) {i : Nat} (hi : i < L.length) (hs : ∀ b, b < W.heap.size → W'.heap[b]? = W.heap[b]?) {gi ci n : Nat} (hn : (L.getD i []).length = n) (hv : vs.getD i undef = .slice (some ⟨gi, 0, none⟩) n ci) {xs : List Value}
    (hrow : W.ownsRow B 36 2 (.slice (some ⟨gi, 0, none⟩) n ci) n xs) {j : Nat} {u : Value} (hj : j < n * 2) {l' : List Stp} (hl : l'.length = n) (hst : ∀ k, k < n → StampCells W' B (xs.set j u) k (l'.getD k (0, []))) :
    LogsMem B H (W'.setCell ⟨gi, j, none⟩ u) (L.set i l') vs := by
  obtain ⟨hbg, cur0, hh0⟩ := owns_block hrow (g := gi) rfl
  have hH := lt_of_heap h.hd
  have hgl := lt_of_heap hh0
  have hd' := (hs H hH).trans h.hd
  have hset : ∀ b, b ≠ gi → (W'.setCell ⟨gi, j, none⟩ u).heap[b]? = W'.heap[b]? := fun b hb => Below.heap_setCell _ ⟨gi, j, none⟩ _ b hb
  have hHg : H ≠ gi := ne_of_type h.hd hh0 (by decide)
  have own3 : ∀ g l, B ≤ g → Own W' g l → Own (W'.setCell ⟨gi, j, none⟩ u) g l := fun g l _ ho => by
    obtain ⟨cur, hh, _⟩ := ho
    exact Own.keep ⟨cur, hh, ‹_›⟩ (hset g (ne_of_type hh ((hs gi hgl).trans hh0) (by decide)))
  have own1 : ∀ g l, B ≤ g → Own W g l → Own W' g l := fun g l _ ho => ho.keep (hs g ho.lt)
  refine ⟨h.hb, (hset H hHg).trans hd', by rw [List.length_set]; exact h.lv, fun a ha => ?_, fun a b ha hb => by rw [List.length_set] at ha hb; exact h.apart a b ha hb⟩
  rw [List.length_set] at ha
  unfold stp
  rw [getD_setL _ _ _ _ hi]
  by_cases e : a = i
  · subst e
    rw [if_pos rfl, hv, hl]
    refine ⟨xs.set j u, ?_, fun k hk => (hst k hk).world own3⟩
    rcases hrow.2 with ⟨e1, _⟩ | ⟨g', cap, cur, e1, hb, hh, h1, h2, h3, h4⟩
    · cases e1
    · injection e1 with a1 a2 a3
      injection a1 with a1
      injection a1 with a1
      subst a1 a3
      refine ⟨by rw [List.length_set]; exact hrow.1, .inr ⟨gi, ci, cur.setIfInBounds j u, rfl, hb, ?_, h1, h2, by simpa using h3, ?_⟩⟩
      · simp [World.setCell, Array.getElem?_modify, (hs gi hgl).trans hh]
      · rw [Array.toList_setIfInBounds, List.take_set, h4]
  · rw [if_neg e]
    obtain ⟨xs2, ho, hc⟩ := h.row a ha
    have hne : ∀ g, (vs.getD a undef).ownBlock = some g → g ≠ gi := fun g hg e' => by
      subst e'
      exact h.apart a i ha hi e g hg (by rw [hv]; rfl)
    refine ⟨xs2, ownsRow_same ho (fun g hg => ?_), fun k hk => (hc k hk).world (fun g l hb ho => own3 g l hb (own1 g l hb ho))⟩
    obtain ⟨_, cur, hh⟩ := owns_block ho hg
    exact (hset g (hne g hg)).trans (hs g (lt_of_heap hh))
end

section
variable {W W' : World} {B : Nat} {xs : List Value} {k q : Nat} {s : Stp}
theorem stampCells_set0 (h : StampCells W B xs k s) (v : Int) : StampCells W B (xs.set (k * 2) (.int .i64 v)) k (v, s.2) := by
  obtain ⟨h1, g, c, h2, h3⟩ := h
  have hl := (List.getElem?_eq_some_iff.1 h1).1
  exact ⟨by rw [List.getElem?_set_self hl], g, c, by rw [List.getElem?_set_ne (by omega)]; exact h2, h3⟩
theorem stampCells_set1 (h : StampCells W B xs k s) {g c : Nat} {l : List Int} (hb : B ≤ g) (ho : Own W' g l) (hl : l.length ≤ 17592186044416) : StampCells W' B (xs.set (k * 2 + 1) (.slice (some ⟨g, 0, none⟩) l.length c)) k (s.1, l) := by
  obtain ⟨h1, g0, c0, h2, h3⟩ := h
  have hx := (List.getElem?_eq_some_iff.1 h2).1
  exact ⟨by rw [List.getElem?_set_ne (by omega)]; exact h1, g, c, by rw [List.getElem?_set_self hx], hb, ho, hl⟩
theorem stampCells_other (h : StampCells W B xs q s) (hne : q ≠ k) {r : Nat} (hr : r < 2) (u : Value) : StampCells W B (xs.set (k * 2 + r) u) q s := by
  obtain ⟨h1, g, c, h2, h3⟩ := h
  exact ⟨by rw [List.getElem?_set_ne (by omega)]; exact h1, g, c, by rw [List.getElem?_set_ne (by omega)]; exact h2, h3⟩
end
theorem snoc_lt (l : List Stp) (x : Stp) (q : Nat) (h : q < l.length) : (l ++ [x]).getD q (0, []) = l.getD q (0, []) := by simp [List.getD, List.getElem?_append_left h]
theorem snoc_eq (l : List Stp) (x : Stp) (q : Nat) (h : l.length = q) : (l ++ [x]).getD q (0, []) = x := by subst h; simp [List.getD]
theorem getD_setT (l : List Stp) (k i : Nat) (x : Stp) (hk : k < l.length) : (l.set k x).getD i (0, []) = if i = k then x else l.getD i (0, []) := by
  simp only [List.getD, List.getElem?_set]
  by_cases h : k = i
  · subst h; simp [hk]
  · have : ¬ i = k := fun e => h e.symm
    simp [h, this]

section
variable {B H : Nat} {W W' : World} {L : List (List Stp)} {vs : List Value}
theorem mem_commit (h : LogsMem B H W L vs) {i k : Nat} (hi : i < L.length) {gi ci n : Nat} (hn : (L.getD i []).length = n) (hk : k < n) (hv : vs.getD i undef = .slice (some ⟨gi, 0, none⟩) n ci) (v : Int) :
    LogsMem B H (W.setCell ⟨gi, k * 2, none⟩ (.int .i64 v)) (L.set i ((L.getD i []).set k (v, (stp L i k).2))) vs := by
  obtain ⟨xs, hrow, hst⟩ := h.row i hi
  rw [hv, hn] at hrow
  refine h.cellSet hi (fun _ _ => rfl) hn hv hrow (by omega) (by rw [List.length_set]; exact hn) (fun q hq => ?_)
  rw [getD_setT _ _ _ _ (by omega)]
  by_cases e : q = k
  · rw [if_pos e, e]; exact stampCells_set0 (hst k (by omega)) v
  · rw [if_neg e]; exact stampCells_other (r := 0) (hst q (by omega)) e (by omega) _
theorem mem_shards (h : LogsMem B H W L vs) (hs : ∀ b, b < W.heap.size → W'.heap[b]? = W.heap[b]?) {i k : Nat} (hi : i < L.length) {gi ci n : Nat} (hn : (L.getD i []).length = n) (hk : k < n) (hv : vs.getD i undef = .slice (some ⟨gi, 0, none⟩) n ci) {g c : Nat} {l : List Int} (hb : B ≤ g) (ho : Own W' g l) (hl : l.length ≤ 17592186044416) :
    LogsMem B H (W'.setCell ⟨gi, k * 2 + 1, none⟩ (.slice (some ⟨g, 0, none⟩) l.length c)) (L.set i ((L.getD i []).set k ((stp L i k).1, l))) vs := by
  obtain ⟨xs, hrow, hst⟩ := h.row i hi
  rw [hv, hn] at hrow
  have own1 : ∀ g l, B ≤ g → Own W g l → Own W' g l := fun g l _ ho => ho.keep (hs g ho.lt)
  refine h.cellSet hi hs hn hv hrow (by omega) (by rw [List.length_set]; exact hn) (fun q hq => ?_)
  rw [getD_setT _ _ _ _ (by omega)]
  by_cases e : q = k
  · rw [if_pos e, e]; exact stampCells_set1 (hst k (by omega)) hb ho hl
  · rw [if_neg e]; exact stampCells_other (r := 1) ((hst q (by omega)).world own1) e (by omega) _
theorem mem_dup (h : LogsMem B H W L vs) (hs : ∀ b, b < W.heap.size → W'.heap[b]? = W.heap[b]?) {i k : Nat} (hi : i < L.length) {n : Nat} (hn : (L.getD i []).length = n) (hk : k < n) {v : Value} (hv : vs.getD i undef = v) {xs : List Value} (hrow0 : W.ownsRow B 36 2 v n xs)
    (hst : ∀ k, k < n → StampCells W B xs k (stp L i k)) {g c : Nat} {c0 c1 : Value} (h0 : xs[k * 2]? = some c0) (h1 : xs[k * 2 + 1]? = some c1) (hrow : W'.ownsRow B 36 2 (.slice (some ⟨g, 0, none⟩) (n + 1) c) (n + 1) (xs ++ [c0, c1])) (hg : W.heap.size ≤ g) :
    ∃ vs', LogsMem B H (W'.setCell ⟨H, i, none⟩ (.slice (some ⟨g, 0, none⟩) (n + 1) c)) (L.set i (L.getD i [] ++ [stp L i k])) vs' := by
  have own1 : ∀ g l, B ≤ g → Own W g l → Own W' g l := fun g l _ ho => ho.keep (hs g ho.lt)
  have hxl := hrow0.1
  refine ⟨_, h.put (W' := W') (v' := .slice (some ⟨g, 0, none⟩) (n + 1) c) (l' := L.getD i [] ++ [stp L i k]) (xs' := xs ++ [c0, c1]) hi (fun b hb _ => hs b hb) (by rw [List.length_append, List.length_singleton, hn]; exact hrow) (fun q hq => ?_) (.inr (.inr ⟨g, rfl, hg⟩))⟩
  rw [List.length_append, List.length_singleton, hn] at hq
  by_cases e : q < n
  · have e2 : (L.getD i [] ++ [stp L i k]).getD q (0, []) = stp L i q := snoc_lt _ _ q (by omega)
    rw [e2]
    exact stampCells_keep (hst q e) (fun j u hu => by
      have := (List.getElem?_eq_some_iff.1 hu).1
      rw [List.getElem?_append_left this]; exact hu) own1
  · have e1 : q = n := by omega
    subst e1
    have e2 : (L.getD i [] ++ [stp L i k]).getD q (0, []) = stp L i k := snoc_eq _ _ q hn
    rw [e2]
    obtain ⟨a1, ga, ca, a2, a3, a4, a5⟩ := hst k hk
    rw [h0] at a1
    rw [h1] at a2
    injection a1 with a1
    injection a2 with a2
    subst a1 a2
    refine ⟨?_, ga, ca, ?_, a3, own1 ga _ a3 a4, a5⟩
    · rw [List.getElem?_append_right (by omega), hxl, Nat.sub_self]; rfl
    · rw [List.getElem?_append_right (by omega), hxl, Nat.add_sub_cancel_left]; rfl
/-- The cells of a row of stamps are one cell each. -/
theorem stamps_one {n : Nat} {xs : List Value} {l : Nat → Stp} (hx : xs.length = n * 2) (h : ∀ k, k < n → StampCells W B xs k (l k)) : ∀ u ∈ xs, u.oneCell' = true := by
  intro u hu
  obtain ⟨j, hj, rfl⟩ := List.mem_iff_getElem.1 hu
  have hk : j / 2 < n := by omega
  obtain ⟨h1, g, c, h2, _⟩ := h (j / 2) hk
  have : j = j / 2 * 2 ∨ j = j / 2 * 2 + 1 := by omega
  rcases this with e | e
  · rw [← e, List.getElem?_eq_getElem hj] at h1
    injection h1 with h1
    rw [h1]; rfl
  · rw [← e, List.getElem?_eq_getElem hj] at h2
    injection h2 with h2
    rw [h2]; rfl
theorem row_cells {e : TypeId} {size n gi ci : Nat} {xs : List Value} (h : W.ownsRow B e size (.slice (some ⟨gi, 0, none⟩) n ci) n xs) : ∀ j u, xs[j]? = some u → W.cell? ⟨gi, j, none⟩ = some u := by
  intro j u hu
  have hq := (List.getElem?_eq_some_iff.1 hu).1
  rw [h.1] at hq
  rcases h.2 with ⟨e1, _⟩ | ⟨g', cap, cur, e1, hb, hh, h1, h2, h3, h4⟩
  · cases e1
  · injection e1 with a1 a2 a3
    injection a1 with a1
    injection a1 with a1
    subst a1
    rw [← h4, List.getElem?_take_of_lt hq] at hu
    simp only [World.cell?, hh]
    simpa using hu
/-- The header of the logs as a row. -/
theorem LogsMem.header (h : LogsMem B H W L vs) (hL : L.length ≤ 1000) : W.ownsRow B 31 1 (.slice (some ⟨H, 0, none⟩) L.length L.length) L.length vs := by
  refine ⟨by rw [Nat.mul_one]; exact h.lv, .inr ⟨H, L.length, vs.toArray, rfl, h.hb, h.hd, Nat.le_refl _, by unfold maxLen; omega, by simp [h.lv], ?_⟩⟩
  rw [Nat.mul_one, ← h.lv]; simp
/-- Each list by itself, apart from the header. -/
theorem LogsMem.each (h : LogsMem B H W L vs) {k : Nat} (hk : k < L.length) (hl : (L.getD k []).length ≤ 17592186044416) : ∃ A c, vs.getD k undef = .slice A (L.getD k []).length c ∧ Stamps W (fun b => b < W.heap.size ∧ b ≠ H) A (L.getD k []) := by
  obtain ⟨A, c, hv, _⟩ := h.val hk
  refine ⟨A, c, hv, hl, fun hpos => ?_⟩
  obtain ⟨xs, ho, hc⟩ := h.row k hk
  rw [hv] at ho
  rcases ho.2 with ⟨_, hn⟩ | ⟨g, cap, cur, e, hb, hh, hnc, _, hcs, ht⟩
  · omega
  · injection e with e1 e2 e3
    subst e1
    refine ⟨g, 0, rfl, ⟨lt_of_heap hh, ne_of_type hh h.hd (by decide)⟩, fun j hj => ?_⟩
    obtain ⟨h1, g2, c2, h2, h3, h4, h5⟩ := hc j hj
    have rd := row_cells ho
    rw [Nat.zero_add]
    obtain ⟨cur4, hh4, _⟩ := id h4
    exact ⟨rd _ _ h1, _, _, rd _ _ h2, h4.ints.more (fun b e => by subst e; exact ⟨h4.lt, ne_of_type hh4 h.hd (by decide)⟩), h5⟩
/-- Logs behind four lists more. -/
theorem logs_more (h : LogsMem B H W L vs) (hll : ∀ i, i < L.length → (L.getD i []).length ≤ 17592186044416) (hS : ∀ b, b < W.heap.size → b ≠ H → W'.heap[b]? = W.heap[b]?) (hsz : W.heap.size ≤ W'.heap.size) {g c : Nat} (hL : L.length ≤ 1000) (hg : g < W'.heap.size)
    (hrow : W'.ownsRow B 31 1 (.slice (some ⟨g, 0, none⟩) (L.length + 4) c) (L.length + 4) (vs ++ [.slice none 0 0, .slice none 0 0, .slice none 0 0, .slice none 0 0])) :
    Logs W' (fun b => b < W'.heap.size) (some ⟨g, 0, none⟩) (L ++ [[], [], [], []]) := by
  have hcell := row_cells hrow
  have hvl := h.lv
  have hlen : (L ++ [[], [], [], []]).length = L.length + 4 := by simp
  refine ⟨by rw [hlen]; omega, fun _ => ⟨g, 0, rfl, hg, fun k hk => ?_⟩⟩
  rw [hlen] at hk
  rw [Nat.zero_add]
  by_cases e : k < L.length
  · obtain ⟨A', c', hc, hs⟩ := h.each e (hll k e)
    have e3 : (L ++ [[], [], [], []]).getD k [] = L.getD k [] := by simp [List.getD, List.getElem?_append_left e]
    rw [e3]
    refine ⟨A', c', hcell k _ ?_, (hs.keep (fun b hb => hS b hb.1 hb.2)).more (fun b hb => Nat.lt_of_lt_of_le hb.1 hsz)⟩
    rw [List.getElem?_append_left (by omega), ← hc]
    simp [List.getD, show k < vs.length by omega]
  · have hk4 : k - L.length = 0 ∨ k - L.length = 1 ∨ k - L.length = 2 ∨ k - L.length = 3 := by omega
    have e3 : (L ++ [[], [], [], []]).getD k [] = [] := by
      simp only [List.getD]
      rw [List.getElem?_append_right (by omega)]
      rcases hk4 with h | h | h | h <;> rw [h] <;> rfl
    rw [e3]
    refine ⟨none, 0, hcell k _ ?_, by simp, fun h => absurd h (by simp)⟩
    rw [List.getElem?_append_right (by omega), hvl]
    rcases hk4 with h | h | h | h <;> rw [h] <;> rfl
end

/-- The state of CutChecks: logs of its own behind the reader. -/
structure MSt (B g H : Nat) (w W : World) (L : List (List Stp)) : Prop where
  mem : ∃ vs, LogsMem B H W L vs
  cs : CaseOk W g
  bel : Below w.heap.size w W
  gw : w.heap.size ≤ g
  gB : g < B
  m1 : 1 ≤ L.length
  m4 : L.length ≤ 4
  ll : ∀ i, i < L.length → (L.getD i []).length ≤ 9
section
variable {B g H : Nat} {w W W' : World} {L : List (List Stp)}
theorem MSt.keep (h : MSt B g H w W L) (hb : Below W.heap.size W W') : MSt B g H w W' L := by
  obtain ⟨vs, hm⟩ := h.mem
  exact ⟨⟨vs, hm.keep (fun b _ hl => hb.block b hl)⟩, h.cs.keep (fun b hb' => hb.block b (by have := h.cs.lt; omega)), h.bel.trans (hb.mono h.bel.size), h.gw, h.gB, h.m1, h.m4, h.ll⟩
theorem MSt.keepG (h : MSt B g H w W L) (hc : CaseOk W' g) (hg : W.grownBy W' (some g)) : MSt B g H w W' L := by
  obtain ⟨vs, hm⟩ := h.mem
  exact ⟨⟨vs, hm.keep (fun b hb hl => hg.block b hl (fun e => by injection e with e; have := h.gB; omega))⟩, hc, h.bel.grown hg h.bel.size (fun k e => by injection e with e; have := h.gw; omega), h.gw, h.gB, h.m1, h.m4, h.ll⟩
theorem MSt.logs (h : MSt B g H w W L) : Logs W (fun b => b < W.heap.size) (some ⟨H, 0, none⟩) L := by
  obtain ⟨vs, hm⟩ := h.mem
  exact (hm.logs (by have := h.m4; omega) (fun i hi => by have := h.ll i hi; omega)).more (fun b hb => hb.2)
/-- Behind a store into memory of its own. -/
theorem MSt.upd (h : MSt B g H w W L) {L' : List (List Stp)} (hm : ∃ vs, LogsMem B H W' L' vs) (hW : ∀ b, b < B → W'.heap[b]? = W.heap[b]?) (hsz : W.heap.size ≤ W'.heap.size) (ho : W'.os = W.os ∧ W'.tape = W.tape ∧ W'.output = W.output) (hl : L'.length = L.length) (hll : ∀ i, i < L'.length → (L'.getD i []).length ≤ 9) : MSt B g H w W' L' := by
  have hgB := h.gB
  have hgw := h.gw
  refine ⟨hm, h.cs.keep (fun b hb => hW b (by omega)), ⟨ho.1.trans h.bel.os, ho.2.1.trans h.bel.tape, ho.2.2.trans h.bel.output, Nat.le_trans h.bel.size hsz, fun b hb => (hW b (by omega)).trans (h.bel.block b hb)⟩, h.gw, h.gB, by rw [hl]; exact h.m1, by rw [hl]; exact h.m4, hll⟩
end
end Go.Proofs.Ytjpknhhdkjhjfaa
