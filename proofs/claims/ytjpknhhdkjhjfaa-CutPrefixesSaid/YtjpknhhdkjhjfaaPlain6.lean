/- Plain: the logs that the generator makes are valid. Nothing of the program. -/
import Derived.Test.YtjpknhhdkjhjfaaPlain5
namespace Go.Proofs.Ytjpknhhdkjhjfaa

/-- Shards so far: ascending, below k. -/
def ShTo (k : Nat) (sh : List Int) : Prop := sh.Pairwise (· < ·) ∧ ∀ x ∈ sh, 0 ≤ x ∧ x < k
theorem sh_zero : ShTo 0 [] := ⟨by simp, by simp⟩
theorem sh_skip {k : Nat} {sh : List Int} (h : ShTo k sh) : ShTo (k + 1) sh := ⟨h.1, fun x hx => by have := h.2 x hx; omega⟩
theorem sh_take {k : Nat} {sh : List Int} (h : ShTo k sh) : ShTo (k + 1) (sh ++ [(k : Int)]) := by
  refine ⟨?_, fun x hx => ?_⟩
  · rw [List.pairwise_append]
    refine ⟨h.1, by simp, fun a ha b hb => ?_⟩
    rw [List.mem_singleton.1 hb]
    exact (h.2 a ha).2
  · rcases List.mem_append.1 hx with h' | h'
    · have := h.2 x h'; omega
    · rw [List.mem_singleton.1 h']; omega
theorem sh_fits {m : Nat} {sh : List Int} (h : ShTo m sh) {t : Int} (ht : t ∈ sh) : Fits m t sh := ⟨h.1, h.2, ht⟩
theorem sh_len {k : Nat} {sh : List Int} (h : ShTo k sh) : sh.length ≤ k := by
  have hp := h.1
  have key : ∀ i, (hi : i < sh.length) → (i : Int) ≤ sh[i] := by
    intro i
    induction i with
    | zero => intro hi; exact (h.2 _ (List.getElem_mem hi)).1
    | succ i ih =>
      intro hi
      have h1 := ih (by omega)
      have h2 := List.pairwise_iff_getElem.1 hp i (i + 1) (by omega) hi (by omega)
      omega
  rcases Nat.eq_zero_or_pos sh.length with h0 | h0
  · omega
  · have h1 := key (sh.length - 1) (by omega)
    have h2 := (h.2 _ (List.getElem_mem (show sh.length - 1 < sh.length by omega))).2
    omega

structure GenS (base n : Int) (L : List (List Stp)) : Prop where
  val : Valid base L
  top : ∀ i, i < L.length → ∀ s ∈ L.getD i [], s.1 ≤ n
  len : ∀ i, i < L.length → ((L.getD i []).length : Int) ≤ n - base
structure GenMid (base n : Int) (sh : List Int) (j : Nat) (L : List (List Stp)) : Prop where
  val : Valid base L
  top : ∀ i, i < L.length → ∀ s ∈ L.getD i [], s.1 ≤ n ∨ (s.1 = n + 1 ∧ s.2 = sh)
  old : ∀ i, i < L.length → (i : Int) ∉ sh.take j → (∀ s ∈ L.getD i [], s.1 ≤ n) ∧ ((L.getD i []).length : Int) ≤ n - base
  len : ∀ i, i < L.length → ((L.getD i []).length : Int) ≤ n - base + 1

section
variable {base n : Int} {L : List (List Stp)} {sh : List Int} {j : Nat}
theorem gen_start (hm : L = List.replicate L.length []) : GenS base base L := by
  have hz : ∀ i, i < L.length → L.getD i [] = [] := fun i hi => by rw [hm]; simp [List.getD, hi]
  refine ⟨⟨fun i hi => ?_, ?_⟩, fun i hi s hs => ?_, fun i hi => ?_⟩
  · rw [hz i hi]; exact ⟨⟨by simp, by simp⟩, by simp⟩
  · intro s hs
    rw [List.mem_flatten] at hs
    obtain ⟨l, hl, hs⟩ := hs
    rw [hm] at hl
    rw [List.eq_of_mem_replicate hl] at hs
    simp at hs
  · rw [hz i hi] at hs; simp at hs
  · rw [hz i hi]; simp
theorem gen_cont (h : GenS base n L) : GenS base (n + 1) L := ⟨h.val, fun i hi s hs => by have := h.top i hi s hs; omega, fun i hi => by have := h.len i hi; omega⟩
theorem mid_start (h : GenS base n L) : GenMid base n sh 0 L := ⟨h.val, fun i hi s hs => .inl (h.top i hi s hs), fun i hi _ => ⟨h.top i hi, h.len i hi⟩, fun i hi => by have := h.len i hi; omega⟩
theorem mid_end (h : GenMid base n sh j L) : GenS base (n + 1) L :=
  ⟨h.val, fun i hi s hs => by rcases h.top i hi s hs with h' | h' <;> omega, fun i hi => by have := h.len i hi; omega⟩
theorem mid_skip (h : GenMid base n sh j L) : GenMid base n sh (j + 1) L :=
  ⟨h.val, h.top, fun i hi hn => h.old i hi (fun hm => hn (by
    rw [List.mem_take_iff_getElem] at hm ⊢
    obtain ⟨k, hk, e⟩ := hm
    exact ⟨k, by omega, e⟩)), h.len⟩
theorem getD_setS (l : List (List Stp)) (k i : Nat) (x : List Stp) (hk : k < l.length) : (l.set k x).getD i [] = if i = k then x else l.getD i [] := by
  simp only [List.getD, List.getElem?_set]
  by_cases h : k = i
  · subst h; simp [hk]
  · have : ¬ i = k := fun e => h e.symm
    simp [h, this]
theorem mem_flatten_getD {L : List (List Stp)} {s : Stp} : s ∈ L.flatten ↔ ∃ i, i < L.length ∧ s ∈ L.getD i [] := by
  rw [List.mem_flatten]
  constructor
  · rintro ⟨l, hl, hs⟩
    obtain ⟨i, hi, rfl⟩ := List.mem_iff_getElem.1 hl
    exact ⟨i, hi, by rw [getD_get _ _ _ hi]; exact hs⟩
  · rintro ⟨i, hi, hs⟩
    exact ⟨L.getD i [], getD_in _ _ _ hi, hs⟩
theorem mid_push {i : Nat} (h : GenMid base n sh j L) (hj : j < sh.length) (ht : sh.getD j 0 = (i : Int)) (hsh : ShTo L.length sh) (hn : base ≤ n) (hn1 : n + 1 ≤ 1073741824) : GenMid base n sh (j + 1) (L.set i (L.getD i [] ++ [(n + 1, sh)])) := by
  have him : (i : Int) ∈ sh := by rw [← ht]; exact getD_in _ _ _ hj
  have hi : i < L.length := by have := (hsh.2 _ him).2; omega
  have hfr := adv_fresh hsh.1 hj ht
  obtain ⟨ho1, ho2⟩ := h.old i hi hfr
  have hg : ∀ a, (L.set i (L.getD i [] ++ [(n + 1, sh)])).getD a [] = if a = i then L.getD i [] ++ [(n + 1, sh)] else L.getD a [] := fun a => getD_setS _ _ _ _ hi
  have htk : (i : Int) ∈ sh.take (j + 1) := by
    rw [take_snoc sh j hj, List.mem_append]
    right
    rw [List.mem_singleton, ← getD_get sh j 0 hj, ht]
  have hmem : ∀ s, s ∈ (L.set i (L.getD i [] ++ [(n + 1, sh)])).flatten → s ∈ L.flatten ∨ s = (n + 1, sh) := fun s hs => by
    obtain ⟨a, ha, hs⟩ := mem_flatten_getD.1 hs
    rw [List.length_set] at ha
    rw [hg a] at hs
    by_cases e : a = i
    · rw [if_pos e] at hs
      rcases List.mem_append.1 hs with h' | h'
      · exact .inl (mem_flatten_getD.2 ⟨i, hi, h'⟩)
      · exact .inr (List.mem_singleton.1 h')
    · rw [if_neg e] at hs
      exact .inl (mem_flatten_getD.2 ⟨a, ha, hs⟩)
  have htop : ∀ s ∈ L.flatten, s.1 ≤ n ∨ (s.1 = n + 1 ∧ s.2 = sh) := fun s hs => by
    obtain ⟨a, ha, hs⟩ := mem_flatten_getD.1 hs
    exact h.top a ha s hs
  refine ⟨⟨fun a ha => ?_, ?_⟩, fun a ha s hs => ?_, fun a ha hna => ?_, fun a ha => ?_⟩
  · rw [List.length_set] at ha ⊢
    rw [hg a]
    by_cases e : a = i
    · rw [if_pos e, e]
      obtain ⟨⟨a1, a2⟩, a3⟩ := h.val.ok i hi
      refine ⟨⟨fun s hs => ?_, ?_⟩, fun s hs => ?_⟩
      · rcases List.mem_append.1 hs with h' | h'
        · exact a1 s h'
        · rw [List.mem_singleton.1 h']; exact ⟨by show base < n + 1; omega, hn1⟩
      · rw [List.pairwise_append]
        refine ⟨a2, by simp, fun x hx y hy => ?_⟩
        rw [List.mem_singleton.1 hy]
        have := ho1 x hx
        show x.1 < n + 1
        omega
      · rcases List.mem_append.1 hs with h' | h'
        · exact a3 s h'
        · rw [List.mem_singleton.1 h']; exact sh_fits hsh him
    · rw [if_neg e]; exact h.val.ok a ha
  · intro s hs t hst e
    rcases hmem s hs with h1 | h1 <;> rcases hmem t hst with h2 | h2
    · exact h.val.agree s h1 t h2 e
    · subst h2
      rcases htop s h1 with h' | h'
      · have : s.1 = n + 1 := e
        omega
      · exact h'.2
    · subst h1
      rcases htop t h2 with h' | h'
      · have : n + 1 = t.1 := e
        omega
      · exact h'.2.symm
    · rw [h1, h2]
  · rw [List.length_set] at ha
    rw [hg a] at hs
    by_cases e : a = i
    · rw [if_pos e] at hs
      rcases List.mem_append.1 hs with h' | h'
      · exact h.top i hi s h'
      · rw [List.mem_singleton.1 h']; exact .inr ⟨rfl, rfl⟩
    · rw [if_neg e] at hs; exact h.top a ha s hs
  · rw [List.length_set] at ha
    have e : a ≠ i := fun e => hna (by rw [e]; exact htk)
    rw [hg a, if_neg e]
    exact h.old a ha (fun hm => hna (by
      rw [List.mem_take_iff_getElem] at hm ⊢
      obtain ⟨k, hk, e⟩ := hm
      exact ⟨k, by omega, e⟩))
  · rw [List.length_set] at ha
    rw [hg a]
    by_cases e : a = i
    · rw [if_pos e, List.length_append, List.length_singleton]
      omega
    · rw [if_neg e]; exact h.len a ha
/-- A list that is cut stays valid. -/
theorem gen_cut {i k : Nat} (hi : i < L.length) (h : GenS base n L) : GenS base n (L.set i ((L.getD i []).take k)) := by
  have hg : ∀ a, (L.set i ((L.getD i []).take k)).getD a [] = if a = i then (L.getD i []).take k else L.getD a [] := fun a => getD_setS _ _ _ _ hi
  have hsub : ∀ a, a < L.length → ∀ s ∈ (L.set i ((L.getD i []).take k)).getD a [], s ∈ L.getD a [] := fun a ha s hs => by
    rw [hg a] at hs
    by_cases e : a = i
    · rw [if_pos e] at hs; rw [e]; exact List.mem_of_mem_take hs
    · rw [if_neg e] at hs; exact hs
  refine ⟨⟨fun a ha => ?_, ?_⟩, fun a ha s hs => ?_, fun a ha => ?_⟩
  · rw [List.length_set] at ha ⊢
    obtain ⟨⟨a1, a2⟩, a3⟩ := h.val.ok a ha
    refine ⟨⟨fun s hs => a1 s (hsub a ha s hs), ?_⟩, fun s hs => a3 s (hsub a ha s hs)⟩
    rw [hg a]
    by_cases e : a = i
    · rw [if_pos e]
      subst e
      exact a2.take
    · rw [if_neg e]; exact a2
  · intro s hs t ht e
    obtain ⟨a, ha, hs⟩ := mem_flatten_getD.1 hs
    obtain ⟨b, hb, ht⟩ := mem_flatten_getD.1 ht
    rw [List.length_set] at ha hb
    exact h.val.agree s (mem_flatten_getD.2 ⟨a, ha, hsub a ha s hs⟩) t (mem_flatten_getD.2 ⟨b, hb, hsub b hb t ht⟩) e
  · rw [List.length_set] at ha
    exact h.top a ha s (hsub a ha s hs)
  · rw [List.length_set] at ha
    have := h.len a ha
    rw [hg a]
    by_cases e : a = i
    · rw [if_pos e, List.length_take]; subst e; omega
    · rw [if_neg e]; exact this
end
end Go.Proofs.Ytjpknhhdkjhjfaa
