/- Plain notions: logs, their validity, cuts. Nothing of the program. -/
namespace Go.Proofs.Ytjpknhhdkjhjfaa

/-- A stamp: a commit and its shards. -/
abbrev Stp := Int × List Int

def Fits (m i : Int) (l : List Int) : Prop := l.Pairwise (· < ·) ∧ (∀ x ∈ l, 0 ≤ x ∧ x < m) ∧ i ∈ l
instance (m i : Int) (l : List Int) : Decidable (Fits m i l) := by unfold Fits; infer_instance
def fitsB (m i : Int) (l : List Int) : Bool := decide (Fits m i l)

/-- Strictly ascending from base on, at most 2^30. -/
def Asc (base : Int) (l : List Stp) : Prop := (∀ s ∈ l, base < s.1 ∧ s.1 ≤ 1073741824) ∧ l.Pairwise (fun a b => a.1 < b.1)
/-- One list of the logs. -/
def LogOk (base m i : Int) (l : List Stp) : Prop := Asc base l ∧ ∀ s ∈ l, Fits m i s.2
/-- Stamps of one commit bear the same shards. -/
def Agree (l : List Stp) : Prop := ∀ s ∈ l, ∀ t ∈ l, s.1 = t.1 → s.2 = t.2
structure Valid (base : Int) (L : List (List Stp)) : Prop where
  ok : ∀ i, i < L.length → LogOk base L.length i (L.getD i [])
  agree : Agree L.flatten
def BadArg (base : Int) (L : List (List Stp)) : Prop := base < 0 ∨ 1073741824 < base ∨ L.length = 0 ∨ 4 < L.length
open Classical in
noncomputable def errOf (base : Int) (L : List (List Stp)) : Int := if BadArg base L then 1 else if Valid base L then 0 else 210

theorem errOf_arg {base : Int} {L : List (List Stp)} (h : BadArg base L) : errOf base L = 1 := by unfold errOf; rw [if_pos h]
theorem errOf_bad {base : Int} {L : List (List Stp)} (h : ¬ BadArg base L) (hv : ¬ Valid base L) : errOf base L = 210 := by unfold errOf; rw [if_neg h, if_neg hv]
theorem errOf_ok {base : Int} {L : List (List Stp)} (h : ¬ BadArg base L) (hv : Valid base L) : errOf base L = 0 := by unfold errOf; rw [if_neg h, if_pos hv]
theorem errOf_cases (base : Int) (L : List (List Stp)) : (errOf base L = 0 ∧ ¬ BadArg base L ∧ Valid base L) ∨ errOf base L = 1 ∨ errOf base L = 210 := by
  by_cases h : BadArg base L
  · exact .inr (.inl (errOf_arg h))
  · by_cases hv : Valid base L
    · exact .inl ⟨errOf_ok h hv, h, hv⟩
    · exact .inr (.inr (errOf_bad h hv))

/-- v is the last of base and the numbers of l. -/
def LastOf (base : Int) (l : List Int) (v : Int) : Prop := (∀ x ∈ l, x ≤ v) ∧ base ≤ v ∧ (v = base ∨ v ∈ l)
theorem lastOf_nil (base : Int) : LastOf base [] base := ⟨by simp, Int.le_refl _, .inl rfl⟩
theorem lastOf_snoc {base : Int} {l : List Int} {v x : Int} (h : LastOf base l v) (hx : v < x) : LastOf base (l ++ [x]) x := by
  obtain ⟨h1, h2, h3⟩ := h
  refine ⟨fun y hy => ?_, by omega, .inr (by simp)⟩
  rcases List.mem_append.1 hy with h | h
  · have := h1 y h; omega
  · have : y = x := by simpa using h
    omega
theorem pairwise_snoc {l : List Int} {base v x : Int} (h : l.Pairwise (· < ·)) (hl : LastOf base l v) (hx : v < x) : (l ++ [x]).Pairwise (· < ·) := by
  rw [List.pairwise_append]
  refine ⟨h, by simp, fun a ha b hb => ?_⟩
  have : b = x := by simpa using hb
  have := hl.1 a ha
  omega

theorem take_snoc {α : Type} (l : List α) (k : Nat) (h : k < l.length) : l.take (k + 1) = l.take k ++ [l[k]] := List.take_succ_eq_append_getElem h

/-- The step of shardsFit that goes on. -/
theorem fits_step {l : List Int} {k : Nat} {m v x : Int} (hk : k < l.length) (hx : l.getD k 0 = x) (h1 : (l.take k).Pairwise (· < ·)) (h2 : ∀ y ∈ l.take k, 0 ≤ y ∧ y < m) (h3 : LastOf (-1) (l.take k) v) (hv : v < x) (hm : x < m) :
    (l.take (k + 1)).Pairwise (· < ·) ∧ (∀ y ∈ l.take (k + 1), 0 ≤ y ∧ y < m) ∧ LastOf (-1) (l.take (k + 1)) x := by
  have e : l[k] = x := by simpa [List.getD, hk] using hx
  rw [take_snoc l k hk, e]
  refine ⟨pairwise_snoc h1 h3 hv, fun y hy => ?_, lastOf_snoc h3 hv⟩
  rcases List.mem_append.1 hy with h | h
  · exact h2 y h
  · have : y = x := by simpa using h
    have := h3.2.1
    omega
theorem fits_fail {l : List Int} {k : Nat} {m i v x : Int} (hk : k < l.length) (hx : l.getD k 0 = x) (h3 : LastOf (-1) (l.take k) v) (hv : x ≤ v ∨ m ≤ x) : fitsB m i l = false := by
  have e : l[k] = x := by simpa [List.getD, hk] using hx
  refine decide_eq_false fun ⟨p, q, _⟩ => ?_
  have hq := q l[k] (List.getElem_mem _)
  rcases hv with hv | hv
  · rcases h3.2.2 with h | h
    · omega
    · obtain ⟨j, hj, hjv⟩ := List.mem_take_iff_getElem.1 h
      have hjk : j < k := by omega
      have := List.pairwise_iff_getElem.1 p j k (by omega) hk hjk
      omega
  · omega
theorem fits_end {l : List Int} {k : Nat} {m i : Int} (hk : l.length ≤ k) (h1 : (l.take k).Pairwise (· < ·)) (h2 : ∀ y ∈ l.take k, 0 ≤ y ∧ y < m) : fitsB m i l = decide (i ∈ l) := by
  rw [List.take_of_length_le hk] at h1 h2
  unfold fitsB Fits
  simp only [h1, true_and]
  have : (∀ x ∈ l, 0 ≤ x ∧ x < m) = True := by simp only [eq_iff_iff, iff_true]; exact h2
  simp [this]
end Go.Proofs.Ytjpknhhdkjhjfaa
