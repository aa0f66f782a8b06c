/- Plain: the inner loops of Close. Nothing of the program. -/
import Derived.Test.YtjpknhhdkjhjfaaPlain3
namespace Go.Proofs.Ytjpknhhdkjhjfaa

theorem getD_set (l : List Int) (k i : Nat) (x : Int) (hk : k < l.length) : (l.set k x).getD i 0 = if i = k then x else l.getD i 0 := by
  simp only [List.getD, List.getElem?_set]
  by_cases h : k = i
  · subst h; simp [hk]
  · have : ¬ i = k := fun e => h e.symm
    simp [h, this]

/-- The lists below k that stand are cut at p. -/
def TruncTo (L : List (List Stp)) (o p : List Int) (cm : Int) (k : Nat) (o' : List Int) : Prop :=
  o'.length = L.length ∧ ∀ i, i < L.length → (i < k → Stands L o p i cm → o'.getD i 0 = p.getD i 0) ∧ (k ≤ i ∨ ¬ Stands L o p i cm → o'.getD i 0 = o.getD i 0)
section
variable {base : Int} {L : List (List Stp)} {c o p o' p' : List Int} {cm : Int} {k : Nat} {s : Stp}
theorem trunc_zero (h : o.length = L.length) : TruncTo L o p cm 0 o := ⟨h, fun i _ => ⟨fun h => absurd h (by omega), fun _ => rfl⟩⟩
theorem trunc_take (hk : k < L.length) (h : TruncTo L o p cm k o') (hs : Stands L o p k cm) : TruncTo L o p cm (k + 1) (o'.set k (p.getD k 0)) := by
  refine ⟨by simpa using h.1, fun i hi => ⟨fun hik hst => ?_, fun hn => ?_⟩⟩
  · rw [getD_set _ _ _ _ (by rw [h.1]; exact hk)]
    by_cases e : i = k
    · rw [if_pos e, e]
    · rw [if_neg e]; exact (h.2 i hi).1 (by omega) hst
  · rw [getD_set _ _ _ _ (by rw [h.1]; exact hk)]
    by_cases e : i = k
    · subst e
      rcases hn with hn | hn
      · omega
      · exact absurd hs hn
    · rw [if_neg e]
      refine (h.2 i hi).2 ?_
      rcases hn with hn | hn
      · exact .inl (by omega)
      · exact .inr hn
theorem trunc_skip (h : TruncTo L o p cm k o') (hs : ¬ Stands L o p k cm) : TruncTo L o p cm (k + 1) o' := by
  refine ⟨h.1, fun i hi => ⟨fun hik hst => ?_, fun hn => ?_⟩⟩
  · rcases Nat.lt_succ_iff_lt_or_eq.1 hik with h' | h'
    · exact (h.2 i hi).1 h' hst
    · subst h'; exact absurd hst hs
  · refine (h.2 i hi).2 ?_
    rcases hn with hn | hn
    · exact .inl (by omega)
    · exact .inr hn
theorem trunc_stands (hk : k < L.length) (h : TruncTo L o p cm k o') : Stands L o' p k cm ↔ Stands L o p k cm := by
  unfold Stands
  rw [(h.2 k hk).2 (.inl (Nat.le_refl _))]
theorem trunc_le (hpo : LeC L.length p o) (h : TruncTo L o p cm k o') : LeC L.length o' o := fun i hi => by
  by_cases hn : k ≤ i ∨ ¬ Stands L o p i cm
  · rw [(h.2 i hi).2 hn]; exact Int.le_refl _
  · have h1 : i < k := by omega
    have h2 : Stands L o p i cm := Classical.byContradiction fun h => hn (.inr h)
    rw [(h.2 i hi).1 h1 h2]; exact hpo i hi
theorem trunc_end (hv : Valid base L) (hi : CloseInv L c o p) (hs : Least L o p s) {t : Int} (ht : t ∈ s.2) (hns : ¬ Stands L o p t.toNat s.1) (hk : L.length ≤ k) (h : TruncTo L o p s.1 k o') : CloseInv L c o' p ∧ room p o' < room p o := by
  refine ⟨close_trunc hv hi hs ht hns h.1 (fun i hi' hst => (h.2 i hi').1 (by omega) hst) (fun i hi' hst => (h.2 i hi').2 (.inr hst)), ?_⟩
  refine room_lt p o p o' (hi.lp.trans hi.lo.symm) rfl (h.1.trans hi.lo.symm) (fun i hil => ?_) ?_
  · have := trunc_le hi.po h i (by rw [← hi.lp]; exact hil)
    omega
  · obtain ⟨⟨i, hil, hlt, rfl⟩, _⟩ := hs
    refine ⟨i, by rw [hi.lp]; exact hil, ?_⟩
    rw [(h.2 i hil).1 (by omega) ⟨hlt, rfl⟩]
    omega

/-- The places of the first j shards have gone on by one. -/
def AdvTo (L : List (List Stp)) (p : List Int) (sh : List Int) (j : Nat) (p' : List Int) : Prop :=
  p'.length = L.length ∧ ∀ i, i < L.length → ((i : Int) ∈ sh.take j → p'.getD i 0 = p.getD i 0 + 1) ∧ ((i : Int) ∉ sh.take j → p'.getD i 0 = p.getD i 0)
theorem adv_zero (h : p.length = L.length) {sh : List Int} : AdvTo L p sh 0 p := ⟨h, fun i _ => ⟨fun h => by simp at h, fun _ => rfl⟩⟩
theorem adv_fresh {sh : List Int} {j : Nat} (hp : sh.Pairwise (· < ·)) (hj : j < sh.length) {t : Int} (ht : sh.getD j 0 = t) : t ∉ sh.take j := by
  intro hm
  obtain ⟨i, hi, e⟩ := List.mem_take_iff_getElem.1 hm
  rw [getD_get _ _ _ hj] at ht
  have := List.pairwise_iff_getElem.1 hp i j (by omega) hj (by omega)
  omega
theorem adv_at {sh : List Int} {j : Nat} {t : Int} (h : AdvTo L p sh j p') (hn : t ∉ sh.take j) (h0 : 0 ≤ t) (h1 : t < L.length) : p'.getD t.toNat 0 = p.getD t.toNat 0 := by
  refine (h.2 t.toNat (by omega)).2 ?_
  rwa [show ((t.toNat : Nat) : Int) = t by omega]
theorem adv_step {sh : List Int} {j : Nat} {t : Int} (hj : j < sh.length) (ht : sh.getD j 0 = t) (h : AdvTo L p sh j p') (h0 : 0 ≤ t) (h1 : t < L.length) : AdvTo L p sh (j + 1) (p'.set t.toNat (p.getD t.toNat 0 + 1)) := by
  have e : sh.take (j + 1) = sh.take j ++ [t] := by rw [take_snoc sh j hj, ← ht, getD_get _ _ _ hj]
  rw [AdvTo, e]
  refine ⟨by simpa using h.1, fun i hi => ⟨fun hm => ?_, fun hm => ?_⟩⟩
  · rw [getD_set _ _ _ _ (by rw [h.1]; omega)]
    by_cases ei : i = t.toNat
    · rw [if_pos ei, ei]
    · rw [if_neg ei]
      rcases List.mem_append.1 hm with h' | h'
      · exact (h.2 i hi).1 h'
      · exfalso; have := List.mem_singleton.1 h'; omega
  · rw [List.mem_append] at hm
    have hne : i ≠ t.toNat := fun e => hm (.inr (List.mem_singleton.2 (by omega)))
    rw [getD_set _ _ _ _ (by rw [h.1]; omega), if_neg hne]
    exact (h.2 i hi).2 fun h' => hm (.inl h')
theorem adv_end (hv : Valid base L) (hi : CloseInv L c o p) (hs : Least L o p s) (hst : ∀ t ∈ s.2, Stands L o p t.toNat s.1) {j : Nat} (hj : s.2.length ≤ j) (h : AdvTo L p s.2 j p') : CloseInv L c o p' ∧ room p' o < room p o := by
  rw [AdvTo, List.take_of_length_le hj] at h
  refine ⟨close_adv hv hi hs hst h.1 (fun i hi' hm => (h.2 i hi').1 hm) (fun i hi' hm => (h.2 i hi').2 hm), ?_⟩
  refine room_lt p o p' o (hi.lp.trans hi.lo.symm) (h.1.trans hi.lp.symm) rfl (fun i hil => ?_) ?_
  · rw [hi.lp] at hil
    by_cases hm : (i : Int) ∈ s.2
    · rw [(h.2 i hil).1 hm]; omega
    · rw [(h.2 i hil).2 hm]; omega
  · obtain ⟨⟨i, hil, hlt, rfl⟩, _⟩ := hs
    refine ⟨i, by rw [hi.lp]; exact hil, ?_⟩
    rw [(h.2 i hil).1 (hv.own hil (hi.plt hil hlt))]
    omega
theorem least_shards (hv : Valid base L) (hi : CloseInv L c o p) (hs : Least L o p s) : s.2.Pairwise (· < ·) ∧ ∀ t ∈ s.2, 0 ≤ t ∧ t < L.length := by
  obtain ⟨⟨i, hil, hlt, rfl⟩, _⟩ := hs
  exact ⟨hv.asc hil (hi.plt hil hlt), fun t ht => hv.range hil (hi.plt hil hlt) ht⟩
end
end Go.Proofs.Ytjpknhhdkjhjfaa
