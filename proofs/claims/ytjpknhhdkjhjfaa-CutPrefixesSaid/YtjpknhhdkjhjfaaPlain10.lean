/- Plain: the steps of the reference's whole, last, upto and Floor. Nothing of the program. -/
import Derived.Test.YtjpknhhdkjhjfaaPlain9
namespace Go.Proofs.Ytjpknhhdkjhjfaa

/-- List i holds commit n. -/
def HasN (L : List (List Stp)) (i : Nat) (n : Int) : Prop := ∃ k', k' < (L.getD i []).length ∧ (stp L i k').1 = n
def WhAt (L : List (List Stp)) (n : Int) (sh : List Int) (j : Nat) : Prop := ∀ t ∈ sh.take j, HasN L t.toNat n
def WhTo (L : List (List Stp)) (n : Int) (k : Nat) (b : Bool) : Prop := (b = true ↔ ∃ i, i < k ∧ HasN L i n) ∧ ∀ i kk, i < k → kk < (L.getD i []).length → (stp L i kk).1 = n → ∀ t ∈ (stp L i kk).2, HasN L t.toNat n
section
variable {base : Int} {L : List (List Stp)} {n m : Int} {k j p : Nat} {b : Bool} {sh : List Int} {s : Stp}
theorem whTo_zero : WhTo L n 0 false := ⟨⟨fun h => (by cases h), fun ⟨i, hi, _⟩ => absurd hi (by omega)⟩, fun i kk hi => absurd hi (by omega)⟩
theorem whAt_zero : WhAt L n sh 0 := fun t ht => by simp at ht
theorem whAt_step {t : Int} (hj : j < sh.length) (ht : sh.getD j 0 = t) (h : WhAt L n sh j) (hin : HasN L t.toNat n) : WhAt L n sh (j + 1) := by
  intro u hu
  rw [take_snoc _ _ hj] at hu
  rcases List.mem_append.1 hu with h' | h'
  · exact h u h'
  · rw [List.mem_singleton.1 h', ← getD_get _ _ 0 hj, ht]; exact hin
theorem whTo_none (h : WhTo L n k b) (hn : ∀ s ∈ L.getD k [], s.1 ≠ n) : WhTo L n (k + 1) b := by
  have hno : ¬ HasN L k n := fun ⟨q, hq, e⟩ => hn _ (stp_mem hq) e
  refine ⟨h.1.trans ⟨fun ⟨i, hi, hh⟩ => ⟨i, by omega, hh⟩, fun ⟨i, hi, hh⟩ => ?_⟩, fun i kk hi hkk e => ?_⟩
  · rcases Nat.lt_succ_iff_lt_or_eq.1 hi with h' | h'
    · exact ⟨i, h', hh⟩
    · subst h'; exact absurd hh hno
  · rcases Nat.lt_succ_iff_lt_or_eq.1 hi with h' | h'
    · exact h.2 i kk h' hkk e
    · subst h'; exact absurd ⟨kk, hkk, e⟩ hno
theorem whTo_some (hv : Valid base L) (hk : k < L.length) (h : WhTo L n k b) (hp : p < (L.getD k []).length) (hs : stp L k p = s) (he : s.1 = n) (hj : s.2.length ≤ j) (hat : WhAt L n s.2 j) : WhTo L n (k + 1) true := by
  refine ⟨⟨fun _ => ⟨k, by omega, p, hp, by rw [hs]; exact he⟩, fun _ => rfl⟩, fun i kk hi hkk e t ht => ?_⟩
  rcases Nat.lt_succ_iff_lt_or_eq.1 hi with h' | h'
  · exact h.2 i kk h' hkk e t ht
  · subst h'
    have := hv.inj hk hkk hp (by rw [e, hs, he])
    subst this
    rw [hs] at ht
    exact hat t (by rw [List.take_of_length_le hj]; exact ht)
theorem whTo_end (hk : L.length ≤ k) (h : WhTo L n k b) : b = true ↔ WholeC L n := by
  constructor
  · intro hb
    obtain ⟨i, hi, q, hq, e⟩ := h.1.1 hb
    have hiL : i < L.length := by
      rcases Nat.lt_or_ge i L.length with h' | h'
      · exact h'
      · have : L.getD i [] = [] := by simp [List.getD, List.getElem?_eq_none h']
        rw [this] at hq; simp at hq
    exact ⟨⟨i, q, hiL, hq, e⟩, fun i kk hi hkk e t ht => h.2 i kk (by omega) hkk e t ht⟩
  · rintro ⟨⟨i, q, hi, hq, e⟩, _⟩
    exact h.1.2 ⟨i, by omega, q, hq, e⟩
theorem wh_fail (hk : k < L.length) (hp : p < (L.getD k []).length) (hs : stp L k p = s) (he : s.1 = n) {t : Int} (ht : t ∈ s.2) (hn : ∀ u ∈ L.getD t.toNat [], u.1 ≠ n) : ¬ WholeC L n := by
  rintro ⟨_, h⟩
  obtain ⟨q, hq, e⟩ := h k p hk hp (by rw [hs]; exact he) t (by rw [hs]; exact ht)
  exact hn _ (stp_mem hq) e

def LastTo (base : Int) (L : List (List Stp)) (n : Int) : Prop := base ≤ n ∧ ∀ c, base < c → c ≤ n → WholeC L c
theorem lastTo_start : LastTo base L base := ⟨Int.le_refl _, fun c h1 h2 => by omega⟩
theorem lastTo_step (h : LastTo base L n) (hw : WholeC L (n + 1)) : LastTo base L (n + 1) := ⟨by have := h.1; omega, fun c h1 h2 => by
  by_cases e : c = n + 1
  · rw [e]; exact hw
  · exact h.2 c h1 (by omega)⟩
theorem lastTo_end (h : LastTo base L n) (hw : ¬ WholeC L (n + 1)) : IsLast base L n := ⟨h.1, h.2, hw⟩
theorem lastTo_top (hv : Valid base L) (h : 1073741824 ≤ n) : ¬ WholeC L (n + 1) := by
  rintro ⟨⟨i, k, hi, hk, e⟩, _⟩
  have := (hv.bd hi hk).2
  omega

/-- How many stamps there are up to n. -/
def cnt (n : Int) (l : List Stp) : Nat := (l.filter fun s => decide (s.1 ≤ n)).length
def uptoL (L : List (List Stp)) (n : Int) : List Int := L.map fun l => (cnt n l : Int)
theorem uptoL_len : (uptoL L n).length = L.length := by simp [uptoL]
theorem uptoL_getD {i : Nat} (hi : i < L.length) : (uptoL L n).getD i 0 = cnt n (L.getD i []) := by simp [uptoL, List.getD, hi]
theorem cnt_le (l : List Stp) : cnt n l ≤ l.length := List.length_filter_le _ _
theorem cnt_snoc (l : List Stp) (x : Stp) : cnt n (l ++ [x]) = cnt n l + if x.1 ≤ n then 1 else 0 := by
  unfold cnt
  rw [List.filter_append, List.length_append]
  by_cases h : x.1 ≤ n <;> simp [h]
/-- Of an ascending list: the first cnt stamps are those up to n. -/
theorem cnt_asc : ∀ (l : List Stp), l.Pairwise (fun a b => a.1 < b.1) → ∀ q, q < l.length → (q < cnt n l ↔ (l.getD q (0, [])).1 ≤ n)
  | [], _, q, hq => by simp at hq
  | x :: l, h, q, hq => by
    obtain ⟨h1, h2⟩ := List.pairwise_cons.1 h
    by_cases hx : x.1 ≤ n
    · have e : cnt n (x :: l) = cnt n l + 1 := by simp [cnt, hx]
      cases q with
      | zero => simp [e, hx]
      | succ q =>
        have := cnt_asc l h2 q (by simpa using hq)
        simp only [e]
        rw [List.getD_cons_succ]
        omega
    · have e : cnt n (x :: l) = 0 := by
        unfold cnt
        rw [List.length_eq_zero_iff, List.filter_eq_nil_iff]
        intro y hy
        rcases List.mem_cons.1 hy with h' | h'
        · subst h'; simpa using hx
        · have := h1 y h'
          simp
          omega
      rw [e]
      have hgt : ¬ ((x :: l).getD q (0, [])).1 ≤ n := by
        cases q with
        | zero => simpa using hx
        | succ q =>
          rw [List.getD_cons_succ, getD_get _ _ _ (by simpa using hq)]
          have := h1 _ (List.getElem_mem (show q < l.length by simpa using hq))
          omega
      omega
theorem cnt_top {l : List Stp} (h : l.Pairwise (fun a b => a.1 < b.1)) (q : Nat) : cnt n l ≤ q ↔ (q < l.length → n < (l.getD q (0, [])).1) := by
  have hle := cnt_le (n := n) l
  by_cases hq : q < l.length
  · have := cnt_asc (n := n) l h q hq
    constructor
    · intro h1 _; omega
    · intro h1
      have := h1 hq
      omega
  · exact ⟨fun _ h' => absurd h' hq, fun _ => by omega⟩

/-- The lists below k are counted, of list k the first j stamps. -/
def upTo (L : List (List Stp)) (n : Int) (k j : Nat) : List Int := (List.range L.length).map fun i => if i < k then (cnt n (L.getD i []) : Int) else if i = k then (cnt n ((L.getD i []).take j) : Int) else 0
theorem upTo_len : (upTo L n k j).length = L.length := by simp [upTo]
theorem upTo_getD {i : Nat} (hi : i < L.length) : (upTo L n k j).getD i 0 = if i < k then (cnt n (L.getD i []) : Int) else if i = k then (cnt n ((L.getD i []).take j) : Int) else 0 := by
  simp [upTo, List.getD, hi]
theorem upTo_at (hk : k < L.length) : (upTo L n k j).getD k 0 = cnt n ((L.getD k []).take j) := by rw [upTo_getD hk]; simp
theorem upTo_zero : List.replicate L.length (0 : Int) = upTo L n 0 0 := by
  refine ext_getD (by simp [upTo_len]) fun i hi => ?_
  rw [List.length_replicate] at hi
  rw [upTo_getD hi]
  simp [List.getD, hi, cnt]
theorem upTo_next (hj : (L.getD k []).length ≤ j) : upTo L n k j = upTo L n (k + 1) 0 := by
  refine ext_getD (by simp [upTo_len]) fun i hi => ?_
  rw [upTo_len] at hi
  rw [upTo_getD hi, upTo_getD hi]
  by_cases h1 : i < k
  · rw [if_pos h1, if_pos (by omega)]
  · rw [if_neg h1]
    by_cases h2 : i = k
    · subst h2
      rw [if_pos rfl, if_pos (by omega), List.take_of_length_le hj]
    · rw [if_neg h2, if_neg (by omega)]
      by_cases h3 : i = k + 1
      · rw [if_pos h3]; simp [cnt]
      · rw [if_neg h3]
theorem upTo_skip (hk : k < L.length) (hj : j < (L.getD k []).length) (hs : (L.getD k []).getD j (0, []) = s) (h : ¬ s.1 ≤ n) : upTo L n k j = upTo L n k (j + 1) := by
  refine ext_getD (by simp [upTo_len]) fun i hi => ?_
  rw [upTo_len] at hi
  rw [upTo_getD hi, upTo_getD hi]
  by_cases h2 : i = k
  · subst h2
    rw [take_snoc_getD (0, []) hj, cnt_snoc, hs, if_neg h]
    simp
  · simp [h2]
theorem upTo_inc (hk : k < L.length) (hj : j < (L.getD k []).length) (hs : (L.getD k []).getD j (0, []) = s) (h : s.1 ≤ n) {x : Int} (hx : (upTo L n k j).getD k 0 = x) : (upTo L n k j).set k (x + 1) = upTo L n k (j + 1) := by
  refine ext_getD (by simp [upTo_len]) fun i hi => ?_
  rw [List.length_set, upTo_len] at hi
  rw [getD_setI _ _ _ _ (by rw [upTo_len]; exact hk), upTo_getD hi, upTo_getD hi, ← hx, upTo_at hk]
  by_cases h2 : i = k
  · subst h2
    rw [take_snoc_getD (0, []) hj, cnt_snoc, hs, if_pos h]
    simp
  · simp [h2]
theorem upTo_end (hk : L.length ≤ k) : upTo L n k 0 = uptoL L n := by
  refine ext_getD (by simp [upTo_len, uptoL_len]) fun i hi => ?_
  rw [upTo_len] at hi
  rw [upTo_getD hi, uptoL_getD hi, if_pos (by omega)]

/-- The cut of n is nowhere above c. -/
def Low (L : List (List Stp)) (c : List Int) (n : Int) : Prop := ∀ i, i < L.length → c.getD i 0 < (L.getD i []).length → n < (stp L i (c.getD i 0).toNat).1
theorem low_iff {c : List Int} (hv : Valid base L) (hc : IsCut L c) : Low L c n ↔ ∀ i, i < (uptoL L n).length → (uptoL L n).getD i 0 ≤ c.getD i 0 := by
  rw [uptoL_len]
  constructor
  · intro h i hi
    rw [uptoL_getD hi]
    have h0 := (hc.2 i hi).1
    have := (cnt_top (n := n) (hv.ok i hi).1.2 (c.getD i 0).toNat).2 (fun hq => h i hi (by omega))
    omega
  · intro h i hi hl
    have h1 := h i hi
    rw [uptoL_getD hi] at h1
    have h0 := (hc.2 i hi).1
    exact (cnt_top (n := n) (hv.ok i hi).1.2 (c.getD i 0).toNat).1 (by omega) (by omega)
theorem low_base {c : List Int} (hv : Valid base L) (hc : IsCut L c) : Low L c base := fun i hi hl => by
  have h0 := (hc.2 i hi).1
  exact (hv.bd hi (show (c.getD i 0).toNat < (L.getD i []).length by omega)).1
/-- All above n, up to m, are above c. -/
def FlTo (L : List (List Stp)) (c : List Int) (n m : Int) : Prop := n ≤ m ∧ ∀ x, n < x → x ≤ m → ¬ Low L c x
theorem flTo_start {c : List Int} : FlTo L c m m := ⟨Int.le_refl _, fun x h1 h2 => by omega⟩
theorem flTo_step {c : List Int} (h : FlTo L c n m) (hn : ¬ Low L c n) : FlTo L c (n - 1) m := ⟨by have := h.1; omega, fun x h1 h2 => by
  by_cases e : x = n
  · rw [e]; exact hn
  · exact h.2 x (by omega) h2⟩
theorem flTo_end {c : List Int} (hl : IsLast base L m) (hb : base ≤ n) (h : FlTo L c n m) (hlow : Low L c n) : IsFloor base L c n := by
  refine ⟨m, hl, hb, h.1, hlow, ?_⟩
  by_cases e : n = m
  · exact .inl e
  · right
    have := h.2 (n + 1) (by omega) (by have := h.1; omega)
    unfold Low at this
    have : ∃ i, i < L.length ∧ c.getD i 0 < (L.getD i []).length ∧ ¬ n + 1 < (stp L i (c.getD i 0).toNat).1 := by
      refine Classical.byContradiction fun hno => this fun i hi hl => ?_
      refine Classical.byContradiction fun hn => hno ⟨i, hi, hl, hn⟩
    obtain ⟨i, hi, hl, hn⟩ := this
    exact ⟨i, hi, hl, by have := hlow i hi hl; omega⟩
end
end Go.Proofs.Ytjpknhhdkjhjfaa
