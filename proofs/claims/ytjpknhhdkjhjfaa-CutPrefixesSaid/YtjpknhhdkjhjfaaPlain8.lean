/- Plain: the steps of the reference's Check. Nothing of the program. -/
import Derived.Test.YtjpknhhdkjhjfaaPlain7
namespace Go.Proofs.Ytjpknhhdkjhjfaa

def OkTo (base : Int) (L : List (List Stp)) (k : Nat) : Prop := ∀ i, i < k → LogOk base L.length i (L.getD i [])
def OkIn (base : Int) (L : List (List Stp)) (k j : Nat) (last : Int) : Prop := LogOk base L.length k ((L.getD k []).take j) ∧ LastOf base (((L.getD k []).take j).map (·.1)) last
section
variable {base : Int} {L : List (List Stp)} {k j : Nat} {last cm : Int} {sh : List Int}
theorem okTo_zero : OkTo base L 0 := fun i hi => absurd hi (by omega)
theorem okIn_zero : OkIn base L k 0 base := ⟨⟨⟨by simp, by simp⟩, by simp⟩, by simpa using lastOf_nil base⟩
theorem okIn_out (h : OkTo base L k) (hi : OkIn base L k j last) (hj : (L.getD k []).length ≤ j) : OkTo base L (k + 1) := by
  have h1 := hi.1
  rw [List.take_of_length_le hj] at h1
  intro i hi
  rcases Nat.lt_succ_iff_lt_or_eq.1 hi with h' | h'
  · exact h i h'
  · subst h'; exact h1
theorem okIn_step (hj : j < (L.getD k []).length) (hs : (L.getD k []).getD j (0, []) = (cm, sh)) (h : OkIn base L k j last) (h1 : last < cm) (h2 : cm ≤ 1073741824) (h3 : fitsB L.length k sh = true) : OkIn base L k (j + 1) cm := by
  obtain ⟨⟨⟨a1, a2⟩, a3⟩, a4⟩ := h
  have e := take_snoc_getD (0, []) hj
  rw [hs] at e
  unfold OkIn
  rw [e]
  refine ⟨⟨⟨fun s hs => ?_, ?_⟩, fun s hs => ?_⟩, ?_⟩
  · rcases List.mem_append.1 hs with h | h
    · exact a1 s h
    · rw [List.mem_singleton.1 h]
      have := a4.2.1
      exact ⟨by show base < cm; omega, h2⟩
  · rw [List.pairwise_append]
    refine ⟨a2, by simp, fun a ha b hb => ?_⟩
    rw [List.mem_singleton.1 hb]
    have := a4.1 a.1 (List.mem_map.2 ⟨a, ha, rfl⟩)
    show a.1 < cm
    omega
  · rcases List.mem_append.1 hs with h | h
    · exact a3 s h
    · rw [List.mem_singleton.1 h]
      exact of_decide_eq_true h3
  · rw [List.map_append]
    exact lastOf_snoc a4 h1
theorem okIn_fail (hk : k < L.length) (hj : j < (L.getD k []).length) (hs : (L.getD k []).getD j (0, []) = (cm, sh)) (h : OkIn base L k j last) (hf : cm ≤ last ∨ 1073741824 < cm) : ¬ Valid base L := by
  intro hv
  obtain ⟨⟨b1, b2⟩, _⟩ := hv.ok k hk
  have hm := b1 _ (mem_at hj hs)
  rcases hf with hf | hf
  · rcases h.2.2.2 with h' | h'
    · have : base < cm := hm.1
      omega
    · obtain ⟨t, ht, e⟩ := List.mem_map.1 h'
      obtain ⟨i, hi, hti⟩ := List.mem_take_iff_getElem.1 ht
      have hij : i < j := by omega
      have := List.pairwise_iff_getElem.1 b2 i j (by omega) hj hij
      have e2 : (L.getD k [])[j] = (cm, sh) := by rw [← hs]; exact (getD_get _ _ _ hj).symm
      rw [hti, e2] at this
      have : t.1 < cm := this
      omega
  · have : cm ≤ 1073741824 := hm.2
    omega
end

theorem asc_inj {l : List Stp} (h : l.Pairwise (fun a b => a.1 < b.1)) {s t : Stp} (hs : s ∈ l) (ht : t ∈ l) (e : s.1 = t.1) : s = t := by
  obtain ⟨i, hi, rfl⟩ := List.mem_iff_getElem.1 hs
  obtain ⟨j, hj, rfl⟩ := List.mem_iff_getElem.1 ht
  rcases Nat.lt_trichotomy i j with h' | h' | h'
  · have := List.pairwise_iff_getElem.1 h i j hi hj h'; omega
  · subst h'; rfl
  · have := List.pairwise_iff_getElem.1 h j i hj hi h'; omega

/-- What the stamp s of list k has in common with the lists from k + 1 to q. -/
def AgAt (L : List (List Stp)) (k : Nat) (s : Stp) (q : Nat) : Prop := ∀ j, k < j → j < q → ∀ t ∈ L.getD j [], s.1 = t.1 → s.2 = t.2
def AgIn (L : List (List Stp)) (k a : Nat) : Prop := ∀ s ∈ (L.getD k []).take a, AgAt L k s L.length
def AgTo (L : List (List Stp)) (k : Nat) : Prop := ∀ i, i < k → ∀ s ∈ L.getD i [], AgAt L i s L.length
section
variable {base : Int} {L : List (List Stp)} {k a q : Nat} {cm : Int} {sh : List Int} {s : Stp}
theorem agTo_zero : AgTo L 0 := fun i hi => absurd hi (by omega)
theorem agIn_zero : AgIn L k 0 := fun s hs => by simp at hs
theorem agAt_zero : AgAt L k s (k + 1) := fun j h1 h2 => absurd h1 (by omega)
theorem agIn_out (h : AgTo L k) (hi : AgIn L k a) (ha : (L.getD k []).length ≤ a) : AgTo L (k + 1) := by
  unfold AgIn at hi
  rw [List.take_of_length_le ha] at hi
  intro i hik
  rcases Nat.lt_succ_iff_lt_or_eq.1 hik with h' | h'
  · exact h i h'
  · subst h'; exact hi
theorem agIn_step (ha : a < (L.getD k []).length) (hs : (L.getD k []).getD a (0, []) = s) (h : AgIn L k a) (hq : L.length ≤ q) (hat : AgAt L k s q) : AgIn L k (a + 1) := by
  unfold AgIn
  rw [take_snoc_getD (0, []) ha, hs]
  intro t ht
  rcases List.mem_append.1 ht with h' | h'
  · exact h t h'
  · rw [List.mem_singleton.1 h']
    exact fun j h1 h2 => hat j h1 (by omega)
theorem agAt_none (h : AgAt L k s q) (hn : ∀ t ∈ L.getD q [], t.1 ≠ s.1) : AgAt L k s (q + 1) := by
  intro j h1 h2
  rcases Nat.lt_succ_iff_lt_or_eq.1 h2 with h' | h'
  · exact h j h1 h'
  · subst h'; exact fun t ht e => absurd e.symm (hn t ht)
theorem agAt_found (hok : OkTo base L L.length) (hq : q < L.length) (h : AgAt L k s q) {t : Stp} (ht : t ∈ L.getD q []) (e : t.1 = s.1) (he : s.2 = t.2) : AgAt L k s (q + 1) := by
  intro j h1 h2
  rcases Nat.lt_succ_iff_lt_or_eq.1 h2 with h' | h'
  · exact h j h1 h'
  · subst h'
    intro u hu eu
    have := asc_inj (hok j hq).1.2 hu ht (eu.symm.trans e.symm)
    rw [this]; exact he
theorem ag_fail (hk : k < L.length) (hq : q < L.length) (hs : s ∈ L.getD k []) {t : Stp} (ht : t ∈ L.getD q []) (e : t.1 = s.1) (he : s.2 ≠ t.2) : ¬ Valid base L :=
  fun hv => he (hv.agree s (getD_take_mem hk hs) t (getD_take_mem hq ht) e.symm)
theorem ag_valid (hok : OkTo base L L.length) (hag : AgTo L L.length) : Valid base L := by
  refine ⟨hok, fun s hs t ht e => ?_⟩
  obtain ⟨i, hi, hs⟩ := mem_flatten_getD.1 hs
  obtain ⟨j, hj, ht⟩ := mem_flatten_getD.1 ht
  rcases Nat.lt_trichotomy i j with h' | h' | h'
  · exact hag i hi s hs j h' hj t ht e
  · subst h'
    rw [asc_inj (hok i hi).1.2 hs ht e]
  · exact (hag j hj t ht i h' hi s hs e.symm).symm
end
end Go.Proofs.Ytjpknhhdkjhjfaa
