/- Plain: the cuts of the commits up to Whole. Nothing of the program. -/
import Derived.Test.YtjpknhhdkjhjfaaPlain10
namespace Go.Proofs.Ytjpknhhdkjhjfaa

theorem nodup_len : ∀ (l m : List Int), l.Nodup → (∀ x ∈ l, x ∈ m) → l.length ≤ m.length
  | [], _, _, _ => by simp
  | a :: l, m, hn, h => by
    obtain ⟨h1, h2⟩ := List.nodup_cons.1 hn
    have ha := h a (by simp)
    have := nodup_len l (m.erase a) h2 (fun x hx => (List.mem_erase_of_ne (fun e => h1 (by rw [← e]; exact hx))).2 (h x (by simp [hx])))
    rw [List.length_erase_of_mem ha] at this
    have : 0 < m.length := List.length_pos_of_mem ha
    simp
    omega
theorem flatten_len : ∀ (L : List (List Stp)), (∀ i, i < L.length → (L.getD i []).length ≤ 8) → L.flatten.length ≤ 8 * L.length
  | [], _ => by simp
  | a :: L, h => by
    have h0 := h 0 (by simp)
    have := flatten_len L (fun i hi => by have := h (i + 1) (by simpa using hi); simpa using this)
    have h0' : a.length ≤ 8 := h0
    rw [List.flatten_cons, List.length_append, List.length_cons]
    omega
theorem nodup_shift (b : Int) : ∀ m : Nat, ((List.range m).map fun k : Nat => b + (k : Int)).Nodup
  | 0 => by simp
  | m + 1 => by
    rw [List.range_succ, List.map_append]
    refine List.nodup_append.2 ⟨nodup_shift b m, by simp, fun x hx y hy => ?_⟩
    obtain ⟨k, hk, rfl⟩ := List.mem_map.1 hx
    have hk' := List.mem_range.1 hk
    have : y = b + (m : Int) := by simpa using hy
    omega
section
variable {base : Int} {L : List (List Stp)} {n m : Int} {x : List Int}
theorem last_bound (h4 : L.length ≤ 4) (hl : ∀ i, i < L.length → (L.getD i []).length ≤ 8) (h : IsLast base L m) : m ≤ base + 60 := by
  have hb := h.1
  have hn := nodup_shift (base + 1) (m - base).toNat
  have hlen := nodup_len _ (L.flatten.map (·.1)) hn (fun c hc => by
    obtain ⟨k, hk, rfl⟩ := List.mem_map.1 hc
    have hk' := List.mem_range.1 hk
    obtain ⟨⟨i, q, hi, hq, e⟩, _⟩ := h.2.1 (base + 1 + (k : Int)) (by omega) (by omega)
    rw [← e]
    exact List.mem_map.2 ⟨_, getD_take_mem hi (stp_mem hq), rfl⟩)
  have := flatten_len L hl
  rw [List.length_map, List.length_map, List.length_range] at hlen
  omega
theorem upto_cut : IsCut L (uptoL L n) := ⟨uptoL_len, fun i hi => by
  rw [uptoL_getD hi]
  have := cnt_le (n := n) (L.getD i [])
  omega⟩
theorem upto_in (hv : Valid base L) {i k : Nat} (hi : i < L.length) (hk : k < (L.getD i []).length) : (k : Int) < (uptoL L n).getD i 0 ↔ (stp L i k).1 ≤ n := by
  rw [uptoL_getD hi]
  have := cnt_asc (n := n) (L.getD i []) (hv.ok i hi).1.2 k hk
  constructor
  · intro h; exact this.1 (by omega)
  · intro h; have := this.2 h; omega
theorem upto_closed (hv : Valid base L) (hm : IsLast base L m) (hn : n ≤ m) : ClosedC L (uptoL L n) := by
  intro i hi k hk hkl t ht
  have hc := (upto_in hv hi hkl).1 hk
  have hb := (hv.bd hi hkl).1
  obtain ⟨k', h1, h2⟩ := (hm.2.1 _ hb (by omega)).2 i k hi hkl rfl t ht
  have htr := hv.range hi hkl ht
  exact ⟨k', (upto_in hv (by omega) h1).2 (by rw [h2]; exact hc), h1, h2⟩
theorem upto_low (hv : Valid base L) : Low L (uptoL L n) n := by
  intro i hi hl
  rw [uptoL_getD hi] at hl ⊢
  rw [Int.toNat_natCast]
  have := cnt_asc (n := n) (L.getD i []) (hv.ok i hi).1.2 (cnt n (L.getD i [])) (by omega)
  rcases Int.lt_or_le n (stp L i (cnt n (L.getD i []))).1 with h | h
  · exact h
  · have := this.2 h; omega
theorem upto_floor (hv : Valid base L) (hm : IsLast base L m) (hb : base ≤ n) (hn : n ≤ m) : IsFloor base L (uptoL L n) n := by
  refine ⟨m, hm, hb, hn, upto_low hv, ?_⟩
  by_cases e : n = m
  · exact .inl e
  · right
    obtain ⟨⟨i, k, hi, hk, e1⟩, _⟩ := hm.2.1 (n + 1) (by omega) (by omega)
    have hnot : ¬ ((k : Int) < (uptoL L n).getD i 0) := fun h => by have := (upto_in hv hi hk).1 h; omega
    have hlt : (uptoL L n).getD i 0 < (L.getD i []).length := by omega
    have h0 := (upto_cut (L := L) (n := n)).2 i hi
    have h1 := upto_low (n := n) hv i hi hlt
    have h2 := hv.le hi (show ((uptoL L n).getD i 0).toNat ≤ k by omega) hk
    exact ⟨i, hi, hlt, by omega⟩
theorem low_floor {f : Int} (hm : IsLast base L m) (hf : IsFloor base L x f) (hn : n ≤ m) : Low L x n ↔ n ≤ f := by
  obtain ⟨m', hm', hb, hfm, hlow, hor⟩ := hf
  have e := isLast_unique hm hm'
  subst e
  constructor
  · intro h
    rcases hor with h' | ⟨i, hi, hl, e⟩
    · omega
    · have := h i hi hl
      omega
  · intro h i hi hl
    have : f < (stp L i (x.getD i 0).toNat).1 := hlow i hi hl
    omega
theorem cnt_mono {n n' : Int} (h : n ≤ n') (l : List Stp) : cnt n l ≤ cnt n' l := by
  unfold cnt
  induction l with
  | nil => simp
  | cons a l ih =>
    simp only [List.filter_cons]
    by_cases h1 : a.1 ≤ n
    · simp [h1, show a.1 ≤ n' by omega]; exact ih
    · by_cases h2 : a.1 ≤ n'
      · simp [h1, h2]; omega
      · simp [h1, h2]; exact ih
theorem upto_asc (hv : Valid base L) (hm : IsLast base L m) (hb : base < n) (hn : n ≤ m) : (∀ i, i < L.length → (uptoL L (n - 1)).getD i 0 ≤ (uptoL L n).getD i 0) ∧ ∃ i, i < L.length ∧ (uptoL L (n - 1)).getD i 0 < (uptoL L n).getD i 0 := by
  refine ⟨fun i hi => ?_, ?_⟩
  · rw [uptoL_getD hi, uptoL_getD hi]
    have := cnt_mono (show n - 1 ≤ n by omega) (L.getD i [])
    omega
  · obtain ⟨⟨i, k, hi, hk, e⟩, _⟩ := hm.2.1 n hb hn
    have h1 := (upto_in (n := n) hv hi hk).2 (by omega)
    have h2 : ¬ ((k : Int) < (uptoL L (n - 1)).getD i 0) := fun h => by have := (upto_in hv hi hk).1 h; omega
    exact ⟨i, hi, by omega⟩
end
end Go.Proofs.Ytjpknhhdkjhjfaa
