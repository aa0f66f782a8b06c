/- Plain: the steps of the reference's lacking and Close. Nothing of the program. -/
import Derived.Test.YtjpknhhdkjhjfaaPlain8
namespace Go.Proofs.Ytjpknhhdkjhjfaa

def LkAt (L : List (List Stp)) (c : List Int) (s : Stp) (j : Nat) : Prop := ∀ t ∈ s.2.take j, InCut L c t.toNat s.1
def LkIn (L : List (List Stp)) (c : List Int) (i k : Nat) : Prop := ∀ k', k' < k → ∀ t ∈ (stp L i k').2, InCut L c t.toNat (stp L i k').1
def LkTo (L : List (List Stp)) (c : List Int) (i : Nat) : Prop := ∀ i', i' < i → ∀ k : Nat, (k : Int) < c.getD i' 0 → ∀ t ∈ (stp L i' k).2, InCut L c t.toNat (stp L i' k).1
/-- A stamp within the cut whose commit is not in the cut in one of its shards. -/
def Lacks (L : List (List Stp)) (c : List Int) (i k : Nat) : Prop := i < L.length ∧ (k : Int) < c.getD i 0 ∧ ∃ t ∈ (stp L i k).2, ¬ InCut L c t.toNat (stp L i k).1
section
variable {base : Int} {L : List (List Stp)} {c o : List Int} {i k j : Nat} {s : Stp}
theorem lkTo_zero : LkTo L c 0 := fun i hi => absurd hi (by omega)
theorem lkIn_zero : LkIn L c i 0 := fun i hi => absurd hi (by omega)
theorem lkAt_zero : LkAt L c s 0 := fun t ht => by simp at ht
theorem lkAt_step {t : Int} (hj : j < s.2.length) (ht : s.2.getD j 0 = t) (h : LkAt L c s j) (hin : InCut L c t.toNat s.1) : LkAt L c s (j + 1) := by
  intro u hu
  rw [take_snoc _ _ hj] at hu
  rcases List.mem_append.1 hu with h' | h'
  · exact h u h'
  · rw [List.mem_singleton.1 h', ← getD_get _ _ 0 hj, ht]; exact hin
theorem lkIn_step (hs : stp L i k = s) (h : LkIn L c i k) (hj : s.2.length ≤ j) (hat : LkAt L c s j) : LkIn L c i (k + 1) := by
  intro k' hk'
  rcases Nat.lt_succ_iff_lt_or_eq.1 hk' with h' | h'
  · exact h k' h'
  · subst h'
    rw [hs]
    intro t ht
    exact hat t (by rw [List.take_of_length_le hj]; exact ht)
theorem lkTo_step {q : Nat} (hq : c.getD i 0 = q) (h : LkTo L c i) (hk : q ≤ k) (hi : LkIn L c i k) : LkTo L c (i + 1) := by
  intro i' hi'
  rcases Nat.lt_succ_iff_lt_or_eq.1 hi' with h' | h'
  · exact h i' h'
  · subst h'
    intro k' hk'
    exact hi k' (by rw [hq] at hk'; omega)
theorem lkTo_end (hi : L.length ≤ i) (h : LkTo L c i) : ClosedC L c := fun i' hi' k hk _ => h i' (by omega) k hk
theorem incut_found {t p : Nat} {cm : Int} (hp : p < (L.getD t []).length) (he : (stp L t p).1 = cm) (hc : (p : Int) < c.getD t 0) : InCut L c t cm := ⟨p, hc, hp, he⟩
theorem incut_above {t p : Nat} {cm : Int} (hv : Valid base L) (ht : t < L.length) (hp : p < (L.getD t []).length) (he : (stp L t p).1 = cm) (hc : c.getD t 0 ≤ p) : ¬ InCut L c t cm := by
  rintro ⟨q, h1, h2, h3⟩
  have := hv.inj ht h2 hp (h3.trans he.symm)
  omega
theorem incut_none {t : Nat} {cm : Int} (h : ∀ s ∈ L.getD t [], s.1 ≠ cm) : ¬ InCut L c t cm := by
  rintro ⟨q, _, h2, h3⟩
  exact h _ (stp_mem h2) h3
theorem lacks_closed (hc : IsCut L c) (h : Lacks L c i k) : ¬ ClosedC L c := by
  obtain ⟨h1, h2, t, ht, hn⟩ := h
  intro hcl
  have := (hc.2 i h1).2
  exact hn (hcl i h1 k h2 (by omega) t ht)

def RCl (L : List (List Stp)) (c o : List Int) : Prop := IsCut L o ∧ LeC L.length o c ∧ ∀ z, IsCut L z → LeC L.length z c → ClosedC L z → LeC L.length z o
theorem rcl_start (hc : IsCut L c) : RCl L c c := ⟨hc, fun _ _ => Int.le_refl _, fun _ _ h _ => h⟩
theorem rcl_end (h : RCl L c o) (hc : ClosedC L o) : IsClose L c o := ⟨h.1, h.2.1, hc, h.2.2⟩
theorem getD_setI (l : List Int) (k i : Nat) (x : Int) (hk : k < l.length) : (l.set k x).getD i 0 = if i = k then x else l.getD i 0 := by
  simp only [List.getD, List.getElem?_set]
  by_cases h : k = i
  · subst h; simp [hk]
  · have : ¬ i = k := fun e => h e.symm
    simp [h, this]
theorem rcl_step (h : RCl L c o) (hl : Lacks L o i k) : RCl L c (o.set i (k : Int)) := by
  obtain ⟨h1, h2, t, ht, hn⟩ := hl
  obtain ⟨hcut, hle, hgr⟩ := h
  have hio : i < o.length := by rw [hcut.1]; exact h1
  have hg : ∀ a, (o.set i (k : Int)).getD a 0 = if a = i then (k : Int) else o.getD a 0 := fun a => getD_setI _ _ _ _ hio
  have htop := (hcut.2 i h1).2
  refine ⟨⟨by rw [List.length_set]; exact hcut.1, fun a ha => ?_⟩, fun a ha => ?_, fun z hz hzc hzl a ha => ?_⟩
  · rw [hg a]
    by_cases e : a = i
    · rw [if_pos e, e]; omega
    · rw [if_neg e]; exact hcut.2 a ha
  · rw [hg a]
    by_cases e : a = i
    · rw [if_pos e, e]
      have := hle i h1
      omega
    · rw [if_neg e]; exact hle a ha
  · rw [hg a]
    by_cases e : a = i
    · rw [if_pos e, e]
      rcases Int.lt_or_le (k : Int) (z.getD i 0) with hlt | hge
      · exfalso
        obtain ⟨k', g1, g2, g3⟩ := hzl i h1 k hlt (by omega) t ht
        have hto : t.toNat < L.length ∨ ¬ t.toNat < L.length := by omega
        rcases hto with hto | hto
        · have := hgr z hz hzc hzl t.toNat hto
          exact hn ⟨k', by omega, g2, g3⟩
        · have : L.getD t.toNat [] = [] := by simp [List.getD, List.getElem?_eq_none (by omega : L.length ≤ t.toNat)]
          rw [this] at g2
          simp at g2
      · exact hge
    · rw [if_neg e]; exact hgr z hz hzc hzl a ha

/-- All that a cut contains. -/
def total (l : List Int) : Nat := (l.map Int.toNat).sum
theorem total_set : ∀ (l : List Int) (i : Nat) (x : Int), i < l.length → x.toNat < (l.getD i 0).toNat → total (l.set i x) < total l
  | [], i, x, h, _ => by simp at h
  | a :: l, 0, x, _, h => by simp [total] at h ⊢; omega
  | a :: l, i + 1, x, h, h' => by
    have := total_set l i x (by simpa using h) (by simpa using h')
    simp [total] at this ⊢
    omega
theorem rcl_total (h : RCl L c o) (hl : Lacks L o i k) : total (o.set i (k : Int)) < total o :=
  total_set o i k (by rw [h.1.1]; exact hl.1) (by have := hl.2.1; omega)
end
end Go.Proofs.Ytjpknhhdkjhjfaa
