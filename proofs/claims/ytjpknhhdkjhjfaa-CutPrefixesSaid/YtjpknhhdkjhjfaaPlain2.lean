/- Plain: the steps of Check. Nothing of the program. -/
import Derived.Test.YtjpknhhdkjhjfaaPlain
namespace Go.Proofs.Ytjpknhhdkjhjfaa

theorem getD_get {α : Type} (l : List α) (j : Nat) (d : α) (h : j < l.length) : l.getD j d = l[j] := by simp [List.getD, h]
theorem getD_in {α : Type} (l : List α) (j : Nat) (d : α) (h : j < l.length) : l.getD j d ∈ l := by rw [getD_get l j d h]; exact List.getElem_mem _
theorem getD_take_mem {L : List (List Stp)} {i : Nat} {s : Stp} (hi : i < L.length) (hs : s ∈ L.getD i []) : s ∈ L.flatten := by
  rw [List.mem_flatten]
  exact ⟨L.getD i [], by simp [List.getD, hi], hs⟩
theorem mem_flatten_take {L : List (List Stp)} {k : Nat} {s : Stp} (hs : s ∈ (L.take k).flatten) : s ∈ L.flatten := by
  rw [List.mem_flatten] at hs ⊢
  obtain ⟨l, hl, h⟩ := hs
  exact ⟨l, List.mem_of_mem_take hl, h⟩
theorem flatten_take_succ {L : List (List Stp)} {k : Nat} (hk : k < L.length) : (L.take (k + 1)).flatten = (L.take k).flatten ++ L.getD k [] := by
  rw [take_snoc L k hk, List.flatten_append]
  simp [List.getD, hk]
theorem take_snoc_getD {l : List Stp} {j : Nat} (d : Stp) (hj : j < l.length) : l.take (j + 1) = l.take j ++ [l.getD j d] := by
  rw [take_snoc l j hj]
  simp [List.getD, hj]

/-- The lists below k are valid. -/
def ChkTo (base : Int) (L : List (List Stp)) (k : Nat) : Prop := (∀ i, i < k → LogOk base L.length i (L.getD i [])) ∧ Agree (L.take k).flatten
/-- And of list k the first j stamps. -/
def ChkIn (base : Int) (L : List (List Stp)) (k j : Nat) (last : Int) : Prop :=
  LogOk base L.length k ((L.getD k []).take j) ∧ LastOf base (((L.getD k []).take j).map (·.1)) last ∧ Agree ((L.take k).flatten ++ (L.getD k []).take j)

theorem chk_zero (base : Int) (L : List (List Stp)) : ChkTo base L 0 := ⟨fun i hi => absurd hi (by omega), fun s hs => by simp at hs⟩
theorem chk_in {base : Int} {L : List (List Stp)} {k : Nat} (h : ChkTo base L k) : ChkIn base L k 0 base := by
  refine ⟨⟨⟨by simp, by simp⟩, by simp⟩, by simpa using lastOf_nil base, ?_⟩
  simpa using h.2
theorem chk_out {base : Int} {L : List (List Stp)} {k j : Nat} {last : Int} (hk : k < L.length) (h : ChkTo base L k) (hi : ChkIn base L k j last) (hj : (L.getD k []).length ≤ j) : ChkTo base L (k + 1) := by
  obtain ⟨h1, _, h3⟩ := hi
  rw [List.take_of_length_le hj] at h1 h3
  refine ⟨fun i hi => ?_, by rw [flatten_take_succ hk]; exact h3⟩
  rcases Nat.lt_succ_iff_lt_or_eq.1 hi with h' | h'
  · exact h.1 i h'
  · subst h'; exact h1
theorem chk_end {base : Int} {L : List (List Stp)} {k : Nat} (hk : L.length ≤ k) (h : ChkTo base L k) : Valid base L := by
  refine ⟨fun i hi => h.1 i (by omega), ?_⟩
  have := h.2
  rwa [List.take_of_length_le hk] at this

theorem chk_step {base : Int} {L : List (List Stp)} {k j : Nat} {last cm : Int} {sh : List Int} (hj : j < (L.getD k []).length) (hs : (L.getD k []).getD j (0, []) = (cm, sh)) (h : ChkIn base L k j last) (h1 : last < cm) (h2 : cm ≤ 1073741824)
    (h3 : fitsB L.length k sh = true) (h4 : ∀ t ∈ (L.take k).flatten ++ (L.getD k []).take j, t.1 = cm → t.2 = sh) : ChkIn base L k (j + 1) cm := by
  obtain ⟨⟨⟨a1, a2⟩, a3⟩, a4, a5⟩ := h
  have e := take_snoc_getD (0, []) hj
  rw [hs] at e
  unfold ChkIn
  rw [e]
  refine ⟨⟨⟨fun s hs => ?_, ?_⟩, fun s hs => ?_⟩, ?_, ?_⟩
  · rcases List.mem_append.1 hs with h | h
    · exact a1 s h
    · rw [List.mem_singleton.1 h]
      have := a4.2.1
      exact ⟨by show base < cm; omega, h2⟩
  · rw [List.pairwise_append]
    refine ⟨a2, by simp, fun a ha b hb => ?_⟩
    rw [List.mem_singleton.1 hb]
    have := a4.1 a.1 (List.mem_map.2 ⟨a, ha, rfl⟩)
    show a.1 < cm
    omega
  · rcases List.mem_append.1 hs with h | h
    · exact a3 s h
    · rw [List.mem_singleton.1 h]
      exact of_decide_eq_true h3
  · rw [List.map_append]
    exact lastOf_snoc a4 h1
  · rw [← List.append_assoc]
    intro s hs t ht hst
    rcases List.mem_append.1 hs with h | h <;> rcases List.mem_append.1 ht with h' | h'
    · exact a5 s h t h' hst
    · rw [List.mem_singleton.1 h'] at hst ⊢
      exact h4 s h hst
    · rw [List.mem_singleton.1 h] at hst ⊢
      exact (h4 t h' hst.symm).symm
    · rw [List.mem_singleton.1 h, List.mem_singleton.1 h']

theorem mem_at {L : List (List Stp)} {k j : Nat} {s : Stp} (hj : j < (L.getD k []).length) (hs : (L.getD k []).getD j (0, []) = s) : s ∈ L.getD k [] := by
  rw [← hs]
  exact getD_in _ _ _ hj
theorem chk_fail1 {base : Int} {L : List (List Stp)} {k j : Nat} {last cm : Int} {sh : List Int} (hk : k < L.length) (hj : j < (L.getD k []).length) (hs : (L.getD k []).getD j (0, []) = (cm, sh)) (h : ChkIn base L k j last) (hf : cm ≤ last ∨ 1073741824 < cm) : ¬ Valid base L := by
  intro hv
  obtain ⟨⟨b1, b2⟩, _⟩ := hv.ok k hk
  have hm := b1 _ (mem_at hj hs)
  rcases hf with hf | hf
  · rcases h.2.1.2.2 with h' | h'
    · have : base < cm := hm.1
      omega
    · obtain ⟨t, ht, e⟩ := List.mem_map.1 h'
      obtain ⟨i, hi, hti⟩ := List.mem_take_iff_getElem.1 ht
      have hij : i < j := by omega
      have := List.pairwise_iff_getElem.1 b2 i j (by omega) hj hij
      have e2 : (L.getD k [])[j] = (cm, sh) := by rw [← hs]; exact (getD_get _ _ _ hj).symm
      rw [hti, e2] at this
      have : t.1 < cm := this
      omega
  · have : cm ≤ 1073741824 := hm.2
    omega
theorem chk_fail2 {base : Int} {L : List (List Stp)} {k j : Nat} {cm : Int} {sh : List Int} (hk : k < L.length) (hj : j < (L.getD k []).length) (hs : (L.getD k []).getD j (0, []) = (cm, sh)) (hf : fitsB L.length k sh = false) : ¬ Valid base L := by
  intro hv
  have := (hv.ok k hk).2 _ (mem_at hj hs)
  exact of_decide_eq_false hf this
theorem chk_fail3 {base : Int} {L : List (List Stp)} {k j : Nat} {cm : Int} {sh : List Int} {t : Stp} (hk : k < L.length) (hj : j < (L.getD k []).length) (hs : (L.getD k []).getD j (0, []) = (cm, sh)) (ht : t ∈ (L.take k).flatten ++ (L.getD k []).take j) (e : t.1 = cm) (hf : t.2 ≠ sh) : ¬ Valid base L := by
  intro hv
  have h1 : (cm, sh) ∈ L.flatten := getD_take_mem hk (mem_at hj hs)
  have h2 : t ∈ L.flatten := by
    rcases List.mem_append.1 ht with h | h
    · exact mem_flatten_take h
    · exact getD_take_mem hk (List.mem_of_mem_take h)
  exact hf (hv.agree t h2 _ h1 e)
end Go.Proofs.Ytjpknhhdkjhjfaa
