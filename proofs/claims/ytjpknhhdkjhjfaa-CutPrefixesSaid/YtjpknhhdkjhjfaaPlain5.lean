/- Plain: whole commits, Whole and Floor. Nothing of the program. -/
import Derived.Test.YtjpknhhdkjhjfaaPlain4
namespace Go.Proofs.Ytjpknhhdkjhjfaa

def WholeC (L : List (List Stp)) (n : Int) : Prop :=
  (∃ i k, i < L.length ∧ k < (L.getD i []).length ∧ (stp L i k).1 = n) ∧
  ∀ i k, i < L.length → k < (L.getD i []).length → (stp L i k).1 = n → ∀ t ∈ (stp L i k).2, ∃ k', k' < (L.getD t.toNat []).length ∧ (stp L t.toNat k').1 = n
def IsLast (base : Int) (L : List (List Stp)) (n : Int) : Prop := base ≤ n ∧ (∀ c, base < c → c ≤ n → WholeC L c) ∧ ¬ WholeC L (n + 1)
theorem isLast_unique {base : Int} {L : List (List Stp)} {n m : Int} (hn : IsLast base L n) (hm : IsLast base L m) : n = m := by
  rcases Int.lt_trichotomy n m with h | h | h
  · exact absurd (hm.2.1 (n + 1) (by have := hn.1; omega) (by omega)) hn.2.2
  · exact h
  · exact absurd (hn.2.1 (m + 1) (by have := hm.1; omega) (by omega)) hm.2.2

structure WholeInv (base : Int) (L : List (List Stp)) (n : Int) (p : List Int) : Prop where
  lp : p.length = L.length
  pos : ∀ i, i < L.length → 0 ≤ p.getD i 0
  top : ∀ i, i < L.length → p.getD i 0 ≤ (L.getD i []).length
  lo : ∀ i, i < L.length → ∀ k : Nat, (k : Int) < p.getD i 0 → (stp L i k).1 ≤ n
  hi : ∀ i, i < L.length → ∀ k : Nat, p.getD i 0 ≤ (k : Int) → k < (L.getD i []).length → n < (stp L i k).1
  ge : base ≤ n
  le : n ≤ 1073741824
  wh : ∀ c, base < c → c ≤ n → WholeC L c

section
variable {base : Int} {L : List (List Stp)} {o p p' : List Int} {n : Int} {s : Stp}
theorem whole_start (hv : Valid base L) (hb : base ≤ 1073741824) : WholeInv base L base (List.replicate L.length 0) := by
  have hz : ∀ i, i < L.length → (List.replicate L.length (0 : Int)).getD i 0 = 0 := fun i hi => by simp [List.getD, hi]
  refine ⟨by simp, fun i hi => by rw [hz i hi]; exact Int.le_refl _, fun i hi => by rw [hz i hi]; omega, fun i hi k hk => ?_, fun i hi k _ hk => (hv.bd hi hk).1, Int.le_refl _, hb, fun c h1 h2 => by omega⟩
  rw [hz i hi] at hk
  omega
theorem whole_none (h : WholeInv base L n p) (ho : ∀ i, i < L.length → o.getD i 0 = (L.getD i []).length) (hn : ∀ i, i < L.length → ¬ p.getD i 0 < o.getD i 0) : IsLast base L n := by
  refine ⟨h.ge, h.wh, fun hw => ?_⟩
  obtain ⟨⟨i, k, hi, hk, e⟩, _⟩ := hw
  have h1 := hn i hi
  rw [ho i hi] at h1
  have := h.lo i hi k (by omega)
  omega
theorem whole_least (hv : Valid base L) (h : WholeInv base L n p) (ho : ∀ i, i < L.length → o.getD i 0 = (L.getD i []).length) (hs : Least L o p s) : n < s.1 ∧ ∀ i k, i < L.length → k < (L.getD i []).length → n < (stp L i k).1 → s.1 ≤ (stp L i k).1 := by
  obtain ⟨⟨i0, hi0, hl0, rfl⟩, hle⟩ := hs
  have hp0 := h.pos i0 hi0
  rw [ho i0 hi0] at hl0
  refine ⟨h.hi i0 hi0 _ (by omega) (by omega), fun i k hi hk hlt => ?_⟩
  have hpk : p.getD i 0 ≤ (k : Int) := by
    rcases Int.lt_or_le (k : Int) (p.getD i 0) with h' | h'
    · have := h.lo i hi k h'; omega
    · exact h'
  have h1 := hle i hi (by rw [ho i hi]; omega)
  have hpi := h.pos i hi
  exact Int.le_trans h1 (hv.le hi (by omega) hk)
theorem whole_gap (hv : Valid base L) (h : WholeInv base L n p) (ho : ∀ i, i < L.length → o.getD i 0 = (L.getD i []).length) (hs : Least L o p s) (hne : s.1 ≠ n + 1) : IsLast base L n := by
  obtain ⟨h1, h2⟩ := whole_least hv h ho hs
  refine ⟨h.ge, h.wh, fun hw => ?_⟩
  obtain ⟨⟨i, k, hi, hk, e⟩, _⟩ := hw
  have := h2 i k hi hk (by omega)
  omega
theorem whole_lack (hv : Valid base L) (h : WholeInv base L n p) (ho : ∀ i, i < L.length → o.getD i 0 = (L.getD i []).length) (hs : Least L o p s) (he : s.1 = n + 1) {t : Int} (ht : t ∈ s.2) (hns : ¬ Stands L o p t.toNat s.1) : IsLast base L n := by
  obtain ⟨h1, h2⟩ := whole_least hv h ho hs
  refine ⟨h.ge, h.wh, fun hw => ?_⟩
  obtain ⟨⟨i0, hi0, hl0, rfl⟩, hle⟩ := hs
  have hp0 := h.pos i0 hi0
  rw [ho i0 hi0] at hl0
  have hk0 : (p.getD i0 0).toNat < (L.getD i0 []).length := by omega
  obtain ⟨k', hk', e'⟩ := hw.2 i0 _ hi0 hk0 he t ht
  have htr := hv.range hi0 hk0 ht
  have htm : t.toNat < L.length := by omega
  have hpk : p.getD t.toNat 0 ≤ (k' : Int) := by
    rcases Int.lt_or_le (k' : Int) (p.getD t.toNat 0) with h' | h'
    · have := h.lo _ htm k' h'; omega
    · exact h'
  have hpt := h.pos _ htm
  have h3 := hv.le htm (show (p.getD t.toNat 0).toNat ≤ k' by omega) hk'
  have h4 := h.hi _ htm (p.getD t.toNat 0).toNat (by omega) (by omega)
  exact hns ⟨by rw [ho _ htm]; omega, by omega⟩
theorem whole_adv (hv : Valid base L) (h : WholeInv base L n p) (ho : ∀ i, i < L.length → o.getD i 0 = (L.getD i []).length) (hs : Least L o p s) (he : s.1 = n + 1) (hst : ∀ t ∈ s.2, Stands L o p t.toNat s.1) {j : Nat} (hj : s.2.length ≤ j) (ha : AdvTo L p s.2 j p') : WholeInv base L (n + 1) p' := by
  rw [AdvTo, List.take_of_length_le hj] at ha
  obtain ⟨hl, ha⟩ := ha
  obtain ⟨⟨i0, hi0, hl0, rfl⟩, hle⟩ := hs
  have hp0 := h.pos i0 hi0
  rw [ho i0 hi0] at hl0
  have hk0 : (p.getD i0 0).toNat < (L.getD i0 []).length := by omega
  have hsti : ∀ i, i < L.length → (i : Int) ∈ (stp L i0 (p.getD i0 0).toNat).2 → p.getD i 0 < (L.getD i []).length ∧ (stp L i (p.getD i 0).toNat).1 = n + 1 := fun i hi hm => by
    have := hst _ hm
    rw [Int.toNat_natCast] at this
    rw [← ho i hi]
    exact ⟨this.1, this.2.trans he⟩
  have hsh : ∀ i k, i < L.length → k < (L.getD i []).length → (stp L i k).1 = n + 1 → (stp L i k).2 = (stp L i0 (p.getD i0 0).toNat).2 := fun i k hi hk e => hv.same hi hi0 hk hk0 (e.trans he.symm)
  refine ⟨hl, fun i hi => ?_, fun i hi => ?_, fun i hi k hk => ?_, fun i hi k hk hkl => ?_, by have := h.ge; omega, by have := (hv.bd hi0 hk0).2; omega, fun c h1 h2 => ?_⟩
  · have := h.pos i hi
    by_cases hm : (i : Int) ∈ (stp L i0 (p.getD i0 0).toNat).2
    · rw [(ha i hi).1 hm]; omega
    · rw [(ha i hi).2 hm]; omega
  · by_cases hm : (i : Int) ∈ (stp L i0 (p.getD i0 0).toNat).2
    · rw [(ha i hi).1 hm]; have := (hsti i hi hm).1; omega
    · rw [(ha i hi).2 hm]; exact h.top i hi
  · by_cases hm : (i : Int) ∈ (stp L i0 (p.getD i0 0).toNat).2
    · rw [(ha i hi).1 hm] at hk
      rcases Int.lt_or_le (k : Int) (p.getD i 0) with h' | h'
      · have := h.lo i hi k h'; omega
      · have hpi := h.pos i hi
        have e : k = (p.getD i 0).toNat := by omega
        rw [e, (hsti i hi hm).2]
        exact Int.le_refl _
    · rw [(ha i hi).2 hm] at hk
      have := h.lo i hi k hk; omega
  · by_cases hm : (i : Int) ∈ (stp L i0 (p.getD i0 0).toNat).2
    · rw [(ha i hi).1 hm] at hk
      have hpi := h.pos i hi
      have := hv.lt hi (show (p.getD i 0).toNat < k by omega) hkl
      rw [(hsti i hi hm).2] at this
      exact this
    · rw [(ha i hi).2 hm] at hk
      have h1 := h.hi i hi k hk hkl
      have h2 : (stp L i k).1 ≠ n + 1 := fun e => by
        have := hv.own hi hkl
        rw [hsh i k hi hkl e] at this
        exact hm this
      omega
  · by_cases hc : c ≤ n
    · exact h.wh c h1 hc
    · have e : c = n + 1 := by omega
      subst e
      refine ⟨⟨i0, _, hi0, hk0, he⟩, fun i k hi hk e t ht => ?_⟩
      rw [hsh i k hi hk e] at ht
      have htr := hv.range hi0 hk0 ht
      have htm : t.toNat < L.length := by omega
      have := hst t ht
      have hpt := h.pos _ htm
      have h3 := this.1
      rw [ho _ htm] at h3
      exact ⟨(p.getD t.toNat 0).toNat, by omega, this.2.trans he⟩
theorem whole_shards (hv : Valid base L) (h : WholeInv base L n p) (ho : ∀ i, i < L.length → o.getD i 0 = (L.getD i []).length) (hs : Least L o p s) : s.2.Pairwise (· < ·) ∧ (∀ t ∈ s.2, 0 ≤ t ∧ t < L.length) ∧ s.1 ≤ 1073741824 := by
  obtain ⟨⟨i, hil, hlt, rfl⟩, _⟩ := hs
  rw [ho i hil] at hlt
  have := h.pos i hil
  have hk : (p.getD i 0).toNat < (L.getD i []).length := by omega
  exact ⟨hv.asc hil hk, fun t ht => hv.range hil hk ht, (hv.bd hil hk).2⟩
end

/-- n is below the first stamp that the cut c lacks, in the lists below k. -/
def FloorTo (base : Int) (L : List (List Stp)) (c : List Int) (m : Int) (k : Nat) (n : Int) : Prop :=
  base ≤ n ∧ n ≤ m ∧ (∀ i, i < k → c.getD i 0 < (L.getD i []).length → n < (stp L i (c.getD i 0).toNat).1) ∧ (n = m ∨ ∃ i, i < k ∧ c.getD i 0 < (L.getD i []).length ∧ (stp L i (c.getD i 0).toNat).1 = n + 1)
def IsFloor (base : Int) (L : List (List Stp)) (c : List Int) (n : Int) : Prop := ∃ m, IsLast base L m ∧ FloorTo base L c m L.length n
section
variable {base : Int} {L : List (List Stp)} {c : List Int} {n m : Int} {k : Nat}
theorem isFloor_unique {n' : Int} (h : IsFloor base L c n) (h' : IsFloor base L c n') : n = n' := by
  obtain ⟨m, hm, h1, h2, h3, h4⟩ := h
  obtain ⟨m', hm', g1, g2, g3, g4⟩ := h'
  have e := isLast_unique hm hm'
  subst e
  rcases h4 with rfl | ⟨i, hi, hl, e⟩ <;> rcases g4 with rfl | ⟨i', hi', hl', e'⟩
  · rfl
  · have := h3 i' hi' hl'; omega
  · have := g3 i hi hl; omega
  · have := h3 i' hi' hl'; have := g3 i hi hl; omega
theorem floor_zero (h : base ≤ m) : FloorTo base L c m 0 m := ⟨h, Int.le_refl _, fun i hi => absurd hi (by omega), .inl rfl⟩
theorem floor_skip (h : FloorTo base L c m k n) (hs : ¬ c.getD k 0 < (L.getD k []).length ∨ n < (stp L k (c.getD k 0).toNat).1) : FloorTo base L c m (k + 1) n := by
  obtain ⟨h1, h2, h3, h4⟩ := h
  refine ⟨h1, h2, fun i hi hl => ?_, ?_⟩
  · rcases Nat.lt_succ_iff_lt_or_eq.1 hi with h' | h'
    · exact h3 i h' hl
    · subst h'
      rcases hs with hs | hs
      · exact absurd hl hs
      · exact hs
  · rcases h4 with h4 | ⟨i, hi, hl, e⟩
    · exact .inl h4
    · exact .inr ⟨i, by omega, hl, e⟩
theorem floor_take (hv : Valid base L) (hk : k < L.length) (h0 : 0 ≤ c.getD k 0) (h : FloorTo base L c m k n) (hl : c.getD k 0 < (L.getD k []).length) (hs : (stp L k (c.getD k 0).toNat).1 ≤ n) : FloorTo base L c m (k + 1) ((stp L k (c.getD k 0).toNat).1 - 1) := by
  obtain ⟨h1, h2, h3, h4⟩ := h
  have hb := (hv.bd hk (show (c.getD k 0).toNat < (L.getD k []).length by omega)).1
  refine ⟨by omega, by omega, fun i hi hl' => ?_, .inr ⟨k, by omega, hl, by omega⟩⟩
  rcases Nat.lt_succ_iff_lt_or_eq.1 hi with h' | h'
  · have := h3 i h' hl'; omega
  · subst h'; omega
theorem lens_getD (L : List (List Stp)) (i : Nat) (hi : i < L.length) : (L.map fun l => (l.length : Int)).getD i 0 = (L.getD i []).length := by
  simp [List.getD, hi]
end
end Go.Proofs.Ytjpknhhdkjhjfaa
